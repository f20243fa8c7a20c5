/- Made weights. -/
import Derived.Test.YtonmcbnjifeagaaGreatDoorPZeroB
import Derived.Test.YtonmcbnjifeagaaGreatDoorPZeroC
import Derived.Test.YtonmcbnjifeagaaGreatDoorPZeroD
import Derived.Test.YtonmcbnjifeagaaGreatDoorPZero
import Derived.Test.YtonmcbnjifeagaaGreatDoorCN
import Derived.Test.YtonmcbnjifeagaaGreatDoorCM
import Derived.Test.YtonmcbnjifeagaaGreatDoorCF
import Derived.Test.YtonmcbnjifeagaaGreatDoorCH
set_option linter.unusedVariables false
set_option linter.unusedSimpArgs false
noncomputable section
namespace Fi.S
open Go Fi
set_option maxHeartbeats 8000000
def zeroW (k:Int)(ps:List Int):W:=if k=6 then wProd (ps.map fun k=>(zeroK k).w) else(zeroK k).w
theorem zeroK_d (k:Int):(zeroK k).w.d=zlit k:=by
 have h1:qs 0=false:=by decide
 have h2:qn 0=[]:=enc_zero;have h3:qd 0=[]:=if_pos rfl;unfold zeroK zlit
 by_cases a:k=2
 ·subst a;rfl
 ·have e:(k==2)=false:=by simpa using a
  rw[if_neg a,e]
  by_cases b:k=4
  ·rw[if_pos b];rfl
  ·rw[if_neg b]
   by_cases c:k=5
   ·rw[if_pos c];rfl
   ·rw[if_neg c];simp only[Sv.w,W.d,W.ds,h1,h2,h3,LD,LL,PD,List.map_nil]
noncomputable def madeP (v:Int):List Ent :=
 if (v.tdiv 5) % 2=1 then addP (constP (ofI (v % 5-2) 3)) (mulP [(paramE ((v.tdiv 10) % 3).toNat,1)] (constP (numQ v))) else constP (ofI (v % 5-2) 3)
noncomputable def madeS (k v:Int):Sv :=
 if k=1 then .q (numQ v) else if k=2 then(if v % 11=10 then .c true 0 else .c false (v % 11)) else if k=3 then .q (ofI (v % 7) 6) else if k=4 then .s (v % 16) else .p (madeP v)
theorem ofI_sz {a b:Int}(ha:a.natAbs<4294967296)(hb:b.natAbs<4294967296)(hb0:b≠0):qz (ofI a b)<=1:=by
 unfold ofI;refine Nat.le_trans (mkq_sz (by omega)) ?_;have h1:sz a.natAbs<=1:=sz_le (by omega);have h2:sz b.natAbs<=1:=sz_le (by omega);exact Nat.max_le.2 ⟨h1,h2⟩
theorem numQ_sz (v:Int):qz (numQ v)<=1:=by
 have h1:=Int.emod_nonneg v (show(13:Int)≠0 by omega);have h2:=Int.emod_lt_of_pos v (show(0:Int)<13 by omega);have h3:=Int.emod_nonneg (v.tdiv 13) (show(3:Int)≠0 by omega);have h4:=Int.emod_lt_of_pos (v.tdiv 13) (show(0:Int)<3 by omega);exact ofI_sz (by omega) (by omega) (by omega)
theorem third_sz (v:Int):qz (ofI (v % 5-2) 3)<=1:=by
 have h1:=Int.emod_nonneg v (show(5:Int)≠0 by omega);have h2:=Int.emod_lt_of_pos v (show(0:Int)<5 by omega);exact ofI_sz (by omega) (by omega) (by omega)
theorem param_pv (i:Nat):PV 1 [(paramE i,1)]:=by
 refine⟨List.pairwise_cons.2 ⟨fun _ h=>(by cases h),List.Pairwise.nil⟩,fun p hp => ?_,fun p hp => ?_,fun p hp => ?_⟩<;>(rw[List.mem_singleton]at hp;subst hp)
 ·exact(by decide:(1:Rat)≠0)
 ·show fitsE (paramE i)=true;unfold paramE;split
  ·decide
  ·split<;>decide
 ·show qz 1<=1;have h:qz 1=max (sz 1) (sz 1):=rfl;rw[h,sz_one];decide
theorem const_len (x:Rat):(constP x).length<=1:=by unfold constP;split<;>simp
theorem madeP_pv (v:Int):PV 9 (madeP v)/\(madeP v).length<=2:=by
 have hc:=constP_pv (third_sz v);have hn:=constP_pv (numQ_sz v);have hm:=mulP_pv (a:=[(paramE ((v.tdiv 10) % 3).toNat,1)]) (by omega) (param_pv _) hn;have hl:=mulP_length [(paramE ((v.tdiv 10) % 3).toNat,1)] (constP (numQ v));have l1:=const_len (numQ v);have l2:=const_len (ofI (v % 5-2) 3);simp only[List.length_cons,List.length_nil]at hm hl;unfold madeP;split
 ·refine⟨(addP_pv2 (S:=4) (T:=4) (by omega) (by omega) (hc.mono (by omega)) (hm.mono (by omega))),?_⟩;have:=addP_length (constP (ofI (v % 5-2) 3)) (mulP [(paramE ((v.tdiv 10) % 3).toNat,1)] (constP (numQ v)));omega
 ·exact⟨hc.mono (by omega),by omega⟩
theorem made_of {k:Int}(hk:single k=true)(v:Int):(madeS k v).of k 9 2:=by
 unfold madeS;rcases single_five hk with rfl|rfl|rfl|rfl|rfl
 ·rw[if_pos rfl];exact⟨.inl rfl,Nat.le_trans (numQ_sz v) (by omega)⟩
 ·rw[if_neg (by decide),if_pos rfl];have h1:=Int.emod_nonneg v (show(11:Int)≠0 by omega);have h2:=Int.emod_lt_of_pos v (show(0:Int)<11 by omega);split
  ·exact⟨rfl,by decide,by decide,fun _=>rfl⟩
  ·exact⟨rfl,h1,by omega,fun h=>by cases h⟩
 ·rw[if_neg (by decide),if_neg (by decide),if_pos rfl];have h1:=Int.emod_nonneg v (show(7:Int)≠0 by omega);have h2:=Int.emod_lt_of_pos v (show(0:Int)<7 by omega);have hs:qz (ofI (v % 7) 6)<=1:=ofI_sz (by omega) (by omega) (by omega);refine⟨.inr ⟨rfl,?_⟩,by omega⟩;have h3:v % 7=0\/v % 7=1\/v % 7=2\/v % 7=3\/v % 7=4\/v % 7=5\/v % 7=6:=by omega
  rcases h3 with h|h|h|h|h|h|h<;>rw[h]<;>decide +kernel
 ·rw[if_neg (by decide),if_neg (by decide),if_neg (by decide),if_pos rfl];have h1:=Int.emod_nonneg v (show(16:Int)≠0 by omega);have h2:=Int.emod_lt_of_pos v (show(0:Int)<16 by omega);exact⟨rfl,h1,by omega⟩
 ·rw[if_neg (by decide),if_neg (by decide),if_neg (by decide),if_neg (by decide)];exact⟨rfl,madeP_pv v⟩
end Fi.S
namespace Fi.S
open Go Fi
set_option maxHeartbeats 8000000
attribute [local simp] oo og ci ml mv ld lf fa lo st0 cl ia lr fl ln sv fb mF mi mn bx bc bl pF pT sl EX_skip EX_ret EX_exit EX_kill EX_seq EX_cond EX_block EX_region ROps_nil ROps_cons RK_mov RK_pick RK_bin RK_conv RK_beq RK_aeq RK_nileq RK_un RK_box RK_new RK_load RK_store RK_faddr RK_field RK_iaddr RK_aaddr RK_index RK_build RK_lit RK_len RK_maxi RK_mini RK_app RK_slice RK_mk RK_ext RK_clo RK_call RK_callv RK_callr RK_callw RK_loadl RK_mkmap RK_mget RK_mput RK_cap RK_appz callFull RK_slen RK_sindex RK_sslice guardV runK argV argsV doCall callPure D.cells FV.cells FV.one D.one oneV St.push St.heap St.setHeap splice partF partD s_add s_sub s_mul s_quo s_rem s_or s_and s_xor s_shl s_shr s_eql s_neq s_lss s_leq s_gtr s_geq unV setVars killVars apartOk finish ressV resV leavesL leaves leaveL leave1 allD mkA fillF finish2 isPure oneOf freezeAll FV.rows FV.rows1 D.norm D.norm1 scalar D.isV FV.shift FV.shiftL AObj.shift pureElem fillE elems FStmt.l FStmt.r FStmt.bl FStmt.lp
theorem rzero5:callN E0 80 35 [.d (rgD 2 [])] []=some (.d (zlit 2),none):=of_isDa (by kernel_rfl)
theorem made1 (v:Int)(hv:i64r v):Ca E1 16 [.d (rgD 1 []),.d (.v (.int .i64 v))] (.d (Sv.q (numQ v)).w.d,none):=by
 obtain⟨N,t⟩:=(Ca.up1 (ca_number v hv)).get;refine Ca.ofS (n:=N+100) ?_;rw[CL_fn rfl (k16:E1.fn _=_) rfl];generalize numQ v=x at*;simp only[Sv.w,W.d,W.ds,PD,rgD,LK,qD,raw,LD,List.map_nil]at*;generalize qs x=s,LL (qn x)=ns,LL (qd x)=ds at*;simp -implicitDefEqProofs [f16,t]
theorem made2 (v:Int)(hv:i64r v):Ca E1 16 [.d (rgD 2 []),.d (.v (.int .i64 v))] (.d (if v % 11=10 then Sv.c true 0 else .c false (v % 11)).w.d,none):=by
 obtain⟨N1,t⟩:=(Ca.up1 (ca_mod v 11 hv (by omega) (by omega))).any;obtain⟨N2,t2⟩:=(Ca.up1 (Ca.of rzero5)).any;obtain⟨N,hN⟩:∃ N,N=N1+N2:=⟨_,rfl⟩
 replace t:=t N (by omega);replace t2:=t2 N (by omega);refine Ca.ofS (n:=N+100) ?_;rw[CL_fn rfl (k16:E1.fn _=_) rfl];generalize v % 11=j at*
 by_cases h:j=10
 ·subst h;rw[if_pos rfl];simp only[Sv.w,W.d,W.ds,PD,rgD,LK,LD,LL,List.map_nil,zlit]at*;simp -implicitDefEqProofs [f16,t,t2]
 ·have h':(j==10)=false:=by simpa using h
  rw[if_neg h];simp only[Sv.w,W.d,W.ds,PD,rgD,LK,LD,LL,List.map_nil]at*;simp -implicitDefEqProofs [f16,t,h,h']
theorem made3' (v:Int)(hv:i64r v):Ca E1 16 [.d (rgD 3 []),.d (.v (.int .i64 v))] (.d (Sv.q (ofI (v % 7) 6)).w.d,none):=by
 have h1:=Int.emod_nonneg v (show(7:Int)≠0 by omega);have h2:=Int.emod_lt_of_pos v (show(0:Int)<7 by omega);obtain⟨N1,t1⟩:=(Ca.up1 (ca_mod v 7 hv (by omega) (by omega))).any;obtain⟨N2,t2⟩:=(Ca.up1 (ca_wof (v % 7) 6 (by omega) (by decide) (by decide))).any;obtain⟨N,hN⟩:∃ N,N=N1+N2:=⟨_,rfl⟩
 replace t1:=t1 N (by omega);replace t2:=t2 N (by omega);refine Ca.ofS (n:=N+100) ?_;rw[CL_fn rfl (k16:E1.fn _=_) rfl];generalize ofI (v % 7) 6=x at*;generalize v % 7=j at*;simp only[Sv.w,W.d,W.ds,PD,rgD,LK,qD,raw,LD,List.map_nil]at*;generalize qs x=s,LL (qn x)=ns,LL (qd x)=ds at*;simp -implicitDefEqProofs [f16,t1,t2]
theorem made4 (v:Int)(hv:i64r v):Ca E1 16 [.d (rgD 4 []),.d (.v (.int .i64 v))] (.d (Sv.s (v % 16)).w.d,none):=by
 have h1:=Int.emod_nonneg v (show(16:Int)≠0 by omega);have h2:=Int.emod_lt_of_pos v (show(0:Int)<16 by omega);obtain⟨N,t⟩:=(Ca.up1 (ca_mod v 16 hv (by omega) (by omega))).get;have w:wrapS .u64 (v % 16)=v % 16:=wrap_u64 (by omega);refine Ca.ofS (n:=N+100) ?_;rw[CL_fn rfl (k16:E1.fn _=_) rfl];generalize v % 16=j at*;simp only[Sv.w,W.d,W.ds,PD,rgD,LK,LD,LL,List.map_nil]at*;simp -implicitDefEqProofs [f16,t,w]
theorem tdiv_r {v n:Int}(hv:i64r v)(hn:2<=n):i64r (v.tdiv n):=by
 have h:(v.tdiv n).natAbs=v.natAbs / n.natAbs:=Int.natAbs_tdiv v n;have h2:v.natAbs / n.natAbs<=v.natAbs / 2:=Nat.div_le_div_left (by omega) (by omega);unfold i64r at*;omega
theorem made5 (v:Int)(hv:i64r v):Ca E1 16 [.d (rgD 5 []),.d (.v (.int .i64 v))] (.d (Sv.p (madeP v)).w.d,none):=by
 have h1:=Int.emod_nonneg v (show(5:Int)≠0 by omega);have h2:=Int.emod_lt_of_pos v (show(0:Int)<5 by omega);have h3:=Int.emod_nonneg (v.tdiv 10) (show(3:Int)≠0 by omega);have h4:=Int.emod_lt_of_pos (v.tdiv 10) (show(0:Int)<3 by omega);have r5:=tdiv_r (n:=5) hv (by omega);have r10:=tdiv_r (n:=10) hv (by omega);have w0:wrapS .i64 (v % 5-2)=v % 5-2:=wrap_i64 (by omega);have w1:wrapS .i64 (v.tdiv 5)=v.tdiv 5:=wrap_i64 r5;have w2:wrapS .i64 (v.tdiv 10)=v.tdiv 10:=wrap_i64 r10;obtain⟨N1,t1⟩:=(Ca.up1 (ca_mod v 5 hv (by omega) (by omega))).any;obtain⟨N2,t2⟩:=(Ca.up1 (ca_wof (v % 5-2) 3 (by omega) (by decide) (by decide))).any;obtain⟨N3,t3⟩:=(ca_wconst (ofI (v % 5-2) 3) (by have:=third_sz v;omega)).any;obtain⟨N4,t4⟩:=(Ca.up1 (ca_mod (v.tdiv 5) 2 r5 (by omega) (by omega))).any;obtain⟨N5,t5⟩:=(Ca.up1 (ca_mod (v.tdiv 10) 3 r10 (by omega) (by omega))).any;have hi3:((v.tdiv 10) % 3).toNat<3:=by omega
 have p6:=ca_wparam ((v.tdiv 10) % 3).toNat hi3;have e6:((((v.tdiv 10) % 3).toNat:Nat):Int)=(v.tdiv 10) % 3:=by omega
 rw[e6]at p6;obtain⟨N6,t6⟩:=p6.any;obtain⟨N7,t7⟩:=(Ca.up1 (ca_number v hv)).any;obtain⟨N8,t8⟩:=(ca_wscale (S:=1) (by omega) (by omega) (param_pv ((v.tdiv 10) % 3).toNat) (numQ v) (numQ_sz v) (by simp)).any;have hm:=mulP_pv (a:=[(paramE ((v.tdiv 10) % 3).toNat,1)]) (by omega) (param_pv _) (constP_pv (numQ_sz v));simp only[List.length_cons,List.length_nil]at hm;obtain⟨N9,t9⟩:=(ca_wpadd (S:=4) (by omega) (by omega) ((constP_pv (third_sz v)).mono (by omega)) (hm.mono (by omega))).any;obtain⟨N,hN⟩:∃ N,N=N1+N2+N3+N4+N5+N6+N7+N8+N9:=⟨_,rfl⟩
 replace t1:=t1 N (by omega);replace t2:=t2 N (by omega);replace t3:=t3 N (by omega);replace t4:=t4 N (by omega);replace t5:=t5 N (by omega);replace t6:=t6 N (by omega);replace t7:=t7 N (by omega);replace t8:=t8 N (by omega);replace t9:=t9 N (by omega);refine Ca.ofS (n:=N+150) ?_;rw[CL_fn rfl (k16:E1.fn _=_) rfl];rw[wP_d];unfold madeP;clear hm hN p6 e6 hi3 h1 h2 h3 h4 r5 r10;generalize numQ v=x,ofI (v % 5-2) 3=y,((v.tdiv 10) % 3).toNat=pi at*;generalize (v.tdiv 10) % 3=j3,(v.tdiv 5) % 2=j2 at*
 by_cases h:j2=1
 ·subst h;rw[if_pos rfl];generalize addP (constP y) (mulP [(paramE pi,1)] (constP x))=R at*;generalize mulP [(paramE pi,1)] (constP x)=P2 at*;generalize ([(paramE pi,1)]:List Ent)=P1 at*;generalize constP y=P0 at*;unfold polD at*;generalize (R.map fun p=>qC p.1 p.2)=z1 at*;generalize (P2.map fun p=>qC p.1 p.2)=z2 at*;generalize (P1.map fun p=>qC p.1 p.2)=z3 at*;generalize (P0.map fun p=>qC p.1 p.2)=z4 at*;simp only[rgD,LK,qD,raw,LD,List.map_nil]at*;generalize qs x=s,LL (qn x)=ns,LL (qd x)=ds,qs y=s',LL (qn y)=ns',LL (qd y)=ds' at*;simp -implicitDefEqProofs [f16,t1,t2,t3,t4,t5,t6,t7,t8,t9,w0,w1,w2]
 ·have h':(j2==1)=false:=by simpa using h
  rw[if_neg h];unfold polD at*;generalize constP y=P0 at*;generalize (P0.map fun p=>qC p.1 p.2)=z4 at*;simp only[rgD,LK,qD,raw,LD,List.map_nil]at*;generalize qs y=s',LL (qn y)=ns',LL (qd y)=ds' at*;simp -implicitDefEqProofs [f16,t1,t2,t3,t4,w0,w1,h,h']
def mdL:FStmt:=f16.body.r.r.r.l.r.bl.lp
def mdB (kk:Int)(ps:List Int):AObj:=.box [.d (.v (.int .i64 kk)),.d (.s 1 (LK .i64 ps))]
def mdS (v:Int)(i:Nat)(t:FV)(L:List AObj):St :=
 (st0 [.u,.d (.v (.int .i64 v)),.r (.loc 0) 0,.r (.loc 1) 0,.u,.r (.loc 2) 0,.d (.v (.int .i64 i)),.u,.u,.u,.u,.u,.u,.u,.u,t] L)
theorem md_round (v:Int)(kk:Int)(ps:List Int)(i:Nat)(k:Int)(L:List AObj)(px:FV)(zs:List D)(z:W)(hk:ps[i]?=some k)(hn:ps.length<=3)(h0:L[0]?=some (mdB kk ps))(h1:L[1]?=some (zBox (.d (.n 8))))(h2:L[2]?=some (zBox px))(ho:OutAt8 px L zs)(hz:zs.length<=3)
  (hc:Ca E1 16 [.d (rgD k []),.d (.v (.int .i64 (wrapS .i64 (v+i))))] (.d z.d,none)) :
  ∃ px' L',Ex E1 mdL (mdS v i .u L) (.norm,mdS v (i+1) .u L')/\L'[0]?=some (mdB kk ps)/\L'[1]?=some (zBox (.d (.n 8)))/\L'[2]?=some (zBox px')/\OutAt8 px' L' (zs++[z.d]):=by
 obtain⟨N,t⟩:=hc.get;have h0l:0<L.length:=(List.getElem?_eq_some_iff.1 h0).1;have h1l:1<L.length:=(List.getElem?_eq_some_iff.1 h1).1;have h2l:2<L.length:=(List.getElem?_eq_some_iff.1 h2).1;have hil:i<ps.length:=(List.getElem?_eq_some_iff.1 hk).1;have n1:(LK .i64 ps).length=ps.length:=by simp[LK]
 have e1:(LK .i64 ps)[i]?=some (.v (.int .i64 k)):=by simp[LK,hk]
 have hinc:wrapS .i64 ((i:Int)+1)=(i:Int)+1:=wrap_i64 (by omega);have hk1:((i+1:Nat):Int)=(i:Int)+1:=by omega
 have hk0:(0:Int)<=(i:Int):=by omega
 have hkc:(i:Int)<(ps.length:Int):=by omega
 obtain⟨zs1,zl1,zl2,zc,zb,zu,zp,zps,ez⟩:=z.wD_of;rw[ez]at t ⊢;unfold wD rgD at*;have e0:LK .i64 []=[]:=rfl;rw[e0]at t;rcases ho with ⟨rfl,rfl⟩|⟨j,ver,rfl,hj⟩
 ·have g2:∀ X,(L++X)[2]?=some (zBox (.d (.n 8))):=fun X=>by rw[List.getElem?_append_left h2l];exact h2
  refine⟨.ls (.loc L.length) 0 8 0 1,(L.set 2 (zBox (.ls (.loc L.length) 0 8 0 1)))++[.row 0 8 [(.a [D.v (.bool zs1),.s 1 zl1,.s 1 zl2,.v (.int .i64 zc),.v (.bool zb),.v (.int .u64 zu),.s 6 zp,.s 8 zps])]],Ex.of (n:=N+100) ?_,?_,?_,?_,?_⟩
  ·unfold mdS;rw[hk1];clear h1;unfold zBox mdB at*;generalize LK .i64 ps=l1 at*;have i1:=idx e1;have i2:=idx h2;have i0:=idx h0;simp -implicitDefEqProofs [mdL,f16,hinc,hk0,hkc,hil,n1,e1,i1,i0,i2,h0,h2,h0l,h2l,t,most,g2]
  ·rw[List.getElem?_append_left (by simpa using h0l),List.getElem?_set_ne (by omega)];exact h0
  ·rw[List.getElem?_append_left (by simpa using h1l),List.getElem?_set_ne (by omega)];exact h1
  ·rw[List.getElem?_append_left (by simpa using h2l)];exact List.getElem?_set_self h2l
  ·exact .inr ⟨L.length,0,rfl,by simp⟩
 ·have hjl:j<L.length:=(List.getElem?_eq_some_iff.1 hj).1;have hj2:j≠2:=fun h=>by
   subst h;rw[h2]at hj;cases hj
  have hj1:j≠1:=fun h=>by
   subst h;rw[h1]at hj;cases hj
  have hj0:j≠0:=fun h=>by
   subst h;rw[h0]at hj;cases hj
  have s2:∀ r,(L.set j r)[2]?=some (zBox (.ls (.loc j) ver 8 0 zs.length)):=fun r=>by rw[List.getElem?_set_ne hj2];exact h2
  have m1:(zs.length+1)*128<=1099511627776:=by omega
  have m2:zs.length+1<=1099511627776:=by omega
  refine⟨.ls (.loc j) (ver+1) 8 0 (zs.length+1),((L.set j (.row (ver+1) 8 (zs++[(.a [D.v (.bool zs1),.s 1 zl1,.s 1 zl2,.v (.int .i64 zc),.v (.bool zb),.v (.int .u64 zu),.s 6 zp,.s 8 zps])]))).set 2 (zBox (.ls (.loc j) (ver+1) 8 0 (zs.length+1)))),Ex.of (n:=N+100) ?_,?_,?_,?_,?_⟩
  ·unfold mdS;rw[hk1];clear h1;unfold zBox mdB at*;generalize LK .i64 ps=l1 at*;have i1:=idx e1;have i2:=idx h2;have i0:=idx h0;have i3:=idx hj;have i4:∀ r (h:2<(L.set j r).length),(L.set j r)[2]=_:=fun r h=>idx (s2 r) h
   simp -implicitDefEqProofs [mdL,f16,hinc,hk0,hkc,hil,n1,e1,i1,i0,i2,h0,h2,h0l,h2l,t,most,i3,i4,hj,hjl,s2,m1,m2]
  ·rw[List.getElem?_set_ne (by omega),List.getElem?_set_ne hj0];exact h0
  ·rw[List.getElem?_set_ne (by omega),List.getElem?_set_ne hj1];exact h1
  ·exact List.getElem?_set_self (by simpa using h2l)
  ·refine .inr ⟨j,ver+1,by simp,?_⟩;rw[List.getElem?_set_ne (fun h=>hj2 h.symm)];exact List.getElem?_set_self hjl
theorem md_loop (v:Int)(kk:Int)(ps:List Int)(zs:List W)(hn:ps.length<=3)(hz:zs.length=ps.length)(hc:∀ (i:Nat) (k:Int) (z:W),ps[i]?=some k->zs[i]?=some z->Ca E1 16 [.d (rgD k []),.d (.v (.int .i64 (wrapS .i64 (v+i))))] (.d z.d,none))
  (L:List AObj) (h0:L[0]?=some (mdB kk ps)) (h1:L[1]?=some (zBox (.d (.n 8)))) (h2:L[2]?=some (zBox (.d (.n 8)))) :
  ∃ px' L',Ex E1 (.loop mdL) (mdS v 0 .u L) (.exit 1,mdS v ps.length (.d (.v (.bool false))) L')/\L'[1]?=some (zBox (.d (.n 8)))/\L'[2]?=some (zBox px')/\OutAt8 px' L' (W.ds zs):=by
 have n1:(LK .i64 ps).length=ps.length:=by simp[LK]
 obtain⟨r,hx,px',L',rfl,h5,h3,h4⟩:=Ex.inv (E:=E1) (b:=mdL) (α:=Nat × FV × List AObj) (S:=fun a=>mdS v a.1 .u a.2.2) (fun a=>ps.length-a.1)
  (fun a=>a.1<=ps.length/\a.2.2[0]?=some (mdB kk ps)/\a.2.2[1]?=some (zBox (.d (.n 8)))/\a.2.2[2]?=some (zBox a.2.1)/\OutAt8 a.2.1 a.2.2 (W.ds (zs.take a.1)))
  (fun r=>∃ px' L',r=(.exit 1,mdS v ps.length (.d (.v (.bool false))) L')/\L'[1]?=some (zBox (.d (.n 8)))/\L'[2]?=some (zBox px')/\OutAt8 px' L' (W.ds zs)) (by
   rintro⟨i,px,L⟩ ⟨q1,qa,q0,q2,q3⟩;simp only at q1 qa q0 q2 q3
   by_cases hi:i<ps.length
   ·have hk:ps[i]?=some ps[i]:=List.getElem?_eq_getElem hi;have hzi:zs[i]?=some (zs[i]'(by omega)):=List.getElem?_eq_getElem (by omega);have hlen:(W.ds (zs.take i)).length<=3:=by simp[W.ds_map];omega
    obtain⟨px',L',g1,ga,g0,g2,g3⟩:=md_round v kk ps i ps[i] L px _ _ hk hn qa q0 q2 q3 hlen (hc i _ _ hk hzi);refine .inl ⟨(i+1,px',L'),g1,by show ps.length-(i+1)<ps.length-i;omega,by show i+1<=_;omega,ga,g0,g2,?_⟩;show OutAt8 px' L' (W.ds (zs.take (i+1)));rw[List.take_add_one,hzi];have e:W.ds (zs.take i++[zs[i]'(by omega)])=W.ds (zs.take i)++[(zs[i]'(by omega)).d]:=by simp only[W.ds_map,List.map_append,List.map_cons,List.map_nil]
    show OutAt8 px' L' (W.ds (zs.take i++[zs[i]'(by omega)]));rw[e];exact g3
   ·obtain rfl:i=ps.length:=by omega
    rw[<-hz,List.take_length]at q3;refine .inr ⟨_,Ex.of (n:=60) ?_,?_,px,L,rfl,q0,q2,q3⟩
    ·unfold mdS;unfold mdB at qa;rw[<-n1];generalize LK .i64 ps=l1 at*;have i0:=idx qa;have h0l:0<L.length:=(List.getElem?_eq_some_iff.1 qa).1;simp -implicitDefEqProofs [mdL,f16,qa,i0,h0l]
    ·simp) (0,.d (.n 8),L) ⟨Nat.zero_le _,h0,h1,h2,.inl ⟨rfl,rfl⟩⟩
 exact⟨px',L',hx,h5,h3,h4⟩
theorem ca_madeP (v:Int)(ps:List Int)(zs:List W)(hn:ps.length<=3)(hz:zs.length=ps.length)(hc:∀ (i:Nat) (k:Int) (z:W),ps[i]?=some k->zs[i]?=some z->Ca E1 16 [.d (rgD k []),.d (.v (.int .i64 (wrapS .i64 (v+i))))] (.d z.d,none)) :
  Ca E1 16 [.d (rgD 6 ps),.d (.v (.int .i64 v))] (.d (wProd zs).d,none):=by
 obtain⟨px,L,hl,h1,h2,ho⟩:=md_loop v 6 ps zs hn hz hc [mdB 6 ps,zBox (.d (.n 8)),zBox (.d (.n 8))] rfl rfl rfl;have hds:(wProd zs).d=.a [.v (.bool false),.s 1 [],.s 1 [],.v (.int .i64 0),.v (.bool false),.v (.int .u64 0),.s 6 [],.s 8 (W.ds zs)]:=rfl;have h1l:1<L.length:=(List.getElem?_eq_some_iff.1 h1).1;have hA:∃ st,Ex E1 f16.body.l (st0 [.d (rgD 6 ps),.d (.v (.int .i64 v)),.u,.u,.u,.u,.u,.u,.u,.u,.u,.u,.u,.u,.u,.u] []) (.norm,st) /\
   st=(st0 [.u,.d (.v (.int .i64 v)),.r (.loc 0) 0,.r (.loc 1) 0,.u,.u,.u,.u,.u,.u,.u,.u,.u,.u,.u,.u] [mdB 6 ps,zBox (.d (.n 8))]):=by
  refine⟨_,Ex.of (n:=60) ?_,rfl⟩;unfold rgD mdB zBox;generalize LK .i64 ps=l1 at*;simp -implicitDefEqProofs [f16]
 obtain⟨_,hA,rfl⟩:=hA;have hB:Ex E1 f16.body.r.l (st0 [.u,.d (.v (.int .i64 v)),.r (.loc 0) 0,.r (.loc 1) 0,.u,.u,.u,.u,.u,.u,.u,.u,.u,.u,.u,.u] [mdB 6 ps,zBox (.d (.n 8))])
   (.norm,(st0 [.u,.d (.v (.int .i64 v)),.r (.loc 0) 0,.r (.loc 1) 0,.u,.u,.u,.u,.u,.u,.u,.u,.u,.d (.v (.bool false)),.u,.u] [mdB 6 ps,zBox (.d (.n 8))])):=by
  refine Ex.of (n:=100) ?_;unfold mdB zBox;generalize LK .i64 ps=l1 at*;simp -implicitDefEqProofs [f16]
 have hC:Ex E1 f16.body.r.r.l (st0 [.u,.d (.v (.int .i64 v)),.r (.loc 0) 0,.r (.loc 1) 0,.u,.u,.u,.u,.u,.u,.u,.u,.u,.d (.v (.bool false)),.u,.u] [mdB 6 ps,zBox (.d (.n 8))])
   (.norm,(st0 [.u,.d (.v (.int .i64 v)),.r (.loc 0) 0,.r (.loc 1) 0,.u,.r (.loc 2) 0,.u,.u,.u,.u,.u,.u,.u,.u,.u,.u] [mdB 6 ps,zBox (.d (.n 8)),zBox (.d (.n 8))])):=by
  refine Ex.of (n:=60) ?_;unfold mdB zBox;generalize LK .i64 ps=l1 at*;simp -implicitDefEqProofs [f16]
 have hC2:Ex E1 f16.body.r.r.r.l.l (st0 [.u,.d (.v (.int .i64 v)),.r (.loc 0) 0,.r (.loc 1) 0,.u,.r (.loc 2) 0,.u,.u,.u,.u,.u,.u,.u,.u,.u,.u] [mdB 6 ps,zBox (.d (.n 8)),zBox (.d (.n 8))])
   (.norm,mdS v 0 .u [mdB 6 ps,zBox (.d (.n 8)),zBox (.d (.n 8))]):=by
  refine Ex.of (n:=60) ?_;unfold mdS mdB zBox;generalize LK .i64 ps=l1 at*;simp -implicitDefEqProofs [f16]
 have hD:Ex E1 f16.body.r.r.r.r (mdS v ps.length (.d (.v (.bool false))) L)
   (.ret,(st0 [.u,.u,.u,.r (.loc 1) 0,.u,.u,.u,.u,.u,.u,.u,.u,.u,.u,.u,.u] (L.set 1 (zBox px)))):=by
  refine Ex.of (n:=60) ?_;unfold mdS zBox at*;have i1:=idx h1;have i2:=idx h2;rcases ho with ⟨rfl,_⟩|⟨j,ver,rfl,_⟩
  ·simp -implicitDefEqProofs [f16,h1,h2,i1,i2,h1l]
  ·simp -implicitDefEqProofs [f16,h1,h2,i1,i2,h1l]
 refine Ca.body (o:=.ret) (st1:=(st0 [.u,.u,.u,.r (.loc 1) 0,.u,.u,.u,.u,.u,.u,.u,.u,.u,.u,.u,.u] (L.set 1 (zBox px)))) rfl (k16:E1.fn _=_) rfl ?_ (by intro id h;cases h) ?_
 ·show Ex E1 (.seq f16.body.l (.seq f16.body.r.l (.seq f16.body.r.r.l (.seq (.seq f16.body.r.r.r.l.l (.block 1 (.loop mdL))) f16.body.r.r.r.r)))) _ _;exact hA.seq (hB.seq (hC.seq ((hC2.seq hl.block).seq hD)))
 ·rw[hds];unfold zBox at*;have s1:∀ o,(L.set 1 o)[1]?=some o:=fun o=>List.getElem?_set_self h1l
  rcases ho with ⟨rfl,e⟩|⟨j,ver,rfl,hj⟩
  ·rw[e];simp -implicitDefEqProofs [f16,s1]
  ·have hj1:j≠1:=fun h=>by
    subst h;rw[h1]at hj;cases hj
   have sj:∀ o,(L.set 1 o)[j]?=some (.row ver 8 (W.ds zs)):=fun o=>by rw[List.getElem?_set_ne (fun h=>hj1 h.symm)];exact hj
   have ev:AObj.view ver 8 0 (W.ds zs).length (.row ver 8 (W.ds zs))=some (W.ds zs):=by simp[AObj.view]
   generalize W.ds zs=es at*;simp -implicitDefEqProofs [f16,s1,sj,ev]
set_option maxRecDepth 4000
theorem norm_a (cs:List D):D.norm (.a cs)=.a (cs.map D.norm1):=rfl
end Fi.S
namespace Fi.S
open Go Fi
set_option maxHeartbeats 8000000
def Ofs (S M:Nat)(ps:List Int)(xs:List Sv):Prop:=xs.length=ps.length/\∀ (i:Nat) (k:Int) (x:Sv),ps[i]?=some k->xs[i]?=some x->x.of k S M
theorem allB_of {S M:Nat}:∀ {ps:List Int} {xs:List Sv},Ofs S M ps xs->allB ps (xs.map Sv.w)=true
 | [],[],_=>rfl
 | [],_::_,h=>by simp[Ofs]at h
 | _::_,[],h=>by simp[Ofs]at h
 | k::ps,x::xs,h=>by
  simp only[List.map_cons,allB,Bool.and_eq_true];exact⟨chk_of (h.2 0 k x rfl rfl),allB_of ⟨by simpa using h.1,fun i k' x' hk hx=>h.2 (i+1) k' x' (by simpa using hk) (by simpa using hx)⟩⟩
theorem check_prod {S M:Nat}{ps:List Int}(hv:validRg 6 ps=true){xs:List Sv}(h:Ofs S M ps xs):checkB 6 ps (wProd (xs.map Sv.w))=true:=by
 unfold checkB;have h1:(wProd (xs.map Sv.w)).ps=xs.map Sv.w:=rfl;have h2:(wProd (xs.map Sv.w)).bare=true:=rfl;rw[hv,h1,h2,allB_of h];simp[h.1]
theorem ok_prod {S M:Nat}(hS:S<=1000){ps:List Int}(hps:ps.length<=3){xs:List Sv}(h:Ofs S M ps xs):(wProd (xs.map Sv.w)).OK:=by
 have hl:Lim []:=fun _ h=>(by cases h)
 refine .mk hl hl (by simp) (by simp) ⟨fun _ h=>(by cases h),by simp⟩ (by have:=h.1;simp;omega) (fun w hw => ?_);obtain⟨x,hx,rfl⟩:=List.mem_map.1 hw;obtain⟨i,hi,hxi⟩:=List.mem_iff_getElem.1 hx;have h1:xs[i]?=some x:=by rw[List.getElem?_eq_getElem hi,hxi]
 have h2:i<ps.length:=by rw[<-h.1];exact hi
 exact ok_of (h.2 i _ x (List.getElem?_eq_getElem h2) h1) hS
noncomputable def plusL (ps:List Int) (xs ys:List Sv):List Sv:=(ps.zip (xs.zip ys)).map fun p=>plusK p.1 p.2.1 p.2.2
end Fi.S
