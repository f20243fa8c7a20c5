/- Sums and products of weights. -/
import Derived.Test.YtonmcbnjifeagaaGreatDoorCL
import Derived.OpenShut
set_option linter.unusedVariables false
set_option linter.unusedSimpArgs false
noncomputable section
namespace Fi.S
open Go Fi
set_option maxHeartbeats 8000000
inductive Sv where
 | q (x:Rat)
 | c (i:Bool) (n:Int)
 | s (u:Int)
 | p (l:List Ent)
def Sv.w:Sv→W
 | .q x=>.mk (qs x) (qn x) (qd x) 0 false 0 [] []
 | .c i n=>.mk false [] [] n i 0 [] []
 | .s u=>.mk false [] [] 0 false u [] []
 | .p l=>.mk false [] [] 0 false 0 (l.map entMo) []
def Sv.of (k:Int)(S M:Nat):Sv→Prop
 | .q x=>(k=1∨(k=3∧0≤x∧x≤1))∧qz x≤S
 | .c i n=>k=2∧0≤n∧n≤1099511627776∧(i=true→n=0)
 | .s u=>k=4∧u64r u
 | .p l=>k=5∧PV S l∧l.length≤M
theorem Sv.of.mono {k:Int}{S T M M':Nat}{x:Sv}(h:x.of k S M)(hST:S≤T)(hM:M≤M'):x.of k T M':=by
 cases x with
 | q x=>exact ⟨h.1,Nat.le_trans h.2 hST⟩
 | c i n=>exact h
 | s u=>exact h
 | p l=>exact ⟨h.1,h.2.1.mono hST,Nat.le_trans h.2.2 hM⟩
end Fi.S
namespace Fi.S
open Go Fi
set_option maxHeartbeats 8000000
attribute [local simp] oo og ci ml mv ld lf fa lo st0 cl ia lr fl ln sv fb mF mi mn bx bc bl pF pT sl EX_skip EX_ret EX_exit EX_kill EX_seq EX_cond EX_block EX_region ROps_nil ROps_cons RK_mov RK_pick RK_bin RK_conv RK_beq RK_aeq RK_nileq RK_un RK_box RK_new RK_load RK_store RK_faddr RK_field RK_iaddr RK_aaddr RK_index RK_build RK_lit RK_len RK_maxi RK_mini RK_app RK_slice RK_mk RK_ext RK_clo RK_call RK_callv RK_callr RK_mkmap RK_mget RK_mput RK_cap RK_appz callFull RK_slen RK_sindex RK_sslice guardV runK argV argsV doCall callPure D.cells FV.cells FV.one D.one oneV St.push St.heap St.setHeap splice partF partD s_add s_sub s_mul s_quo s_rem s_or s_and s_xor s_shl s_shr s_eql s_neq s_lss s_leq s_gtr s_geq unV setVars killVars apartOk finish ressV resV leavesL leaves leaveL leave1 allD mkA fillF finish2 isPure oneOf freezeAll FV.rows FV.rows1 D.norm D.norm1 scalar D.isV FV.shift FV.shiftL AObj.shift pureElem fillE elems FStmt.l FStmt.r FStmt.bl FStmt.lp
def lessC (i:Bool)(n:Int)(j:Bool)(m:Int):Bool := !i&&(j||decide (n<m))
noncomputable def plusK (k:Int):Sv→Sv→Sv
 | .q x,.q y=>if k=3 then (if x<y then .q y else .q x) else .q (x+y)
 | .c i n,.c j m=>if lessC j m i n then .c j m else .c i n
 | .s u,.s v=>.s (orV .u64 u v)
 | .p a,.p b=>.p (addP a b)
 | x,_=>x
noncomputable def timesK:Sv→Sv→Sv
 | .q x,.q y=>.q (x*y)
 | .c i n,.c j m=>if i||(j||decide (1099511627776<n+m)) then .c true 0 else .c false (n+m)
 | .s u,.s v=>.s (andV .u64 u v)
 | .p a,.p b=>.p (mulP a b)
 | x,_=>x
theorem ca_plus1 (x y:Rat)(hx:qz x≤100000)(hy:qz y≤100000):Ca E1 113 [.d (Sv.q x).w.d,.d (Sv.q y).w.d] (.d (Sv.q (x+y)).w.d,none):=by
 obtain ⟨N,t⟩:=(Ca.up1 (ca_addq x y hx hy)).get
 refine Ca.ofS (n:=N+60) ?_
 rw [CL_fn rfl (k113:E1.fn _=_) rfl]
 generalize x+y=z at *
 simp only [Sv.w,W.d,W.ds,PD,qD,raw,LD,List.map_nil] at *
 generalize qs x=s1,qs y=s2,qs z=s3,LL (qn x)=x1,LL (qd x)=x2,LL (qn y)=y1,LL (qd y)=y2,LL (qn z)=z1,LL (qd z)=z2 at *
 simp -implicitDefEqProofs [f113,t]
theorem ca_times1 (x y:Rat)(hx:qz x≤100000)(hy:qz y≤100000):Ca E1 115 [.d (Sv.q x).w.d,.d (Sv.q y).w.d] (.d (Sv.q (x*y)).w.d,none):=by
 obtain ⟨N,t⟩:=(Ca.up1 (ca_mulq x y hx hy)).get
 refine Ca.ofS (n:=N+60) ?_
 rw [CL_fn rfl (k115:E1.fn _=_) rfl]
 generalize x*y=z at *
 simp only [Sv.w,W.d,W.ds,PD,qD,raw,LD,List.map_nil] at *
 generalize qs x=s1,qs y=s2,qs z=s3,LL (qn x)=x1,LL (qd x)=x2,LL (qn y)=y1,LL (qd y)=y2,LL (qn z)=z1,LL (qd z)=z2 at *
 simp -implicitDefEqProofs [f115,t]
theorem ca_less2 (i j:Bool)(n m:Int):Ca E1 126 [.d (Sv.c i n).w.d,.d (Sv.c j m).w.d] (.d (.v (.bool (lessC i n j m))),none):=by
 refine Ca.ofS (n:=60) ?_
 rw [CL_fn rfl (k126:E1.fn _=_) rfl]
 simp only [Sv.w,W.d,W.ds,PD,LD,LL,List.map_nil,lessC] at *
 cases i<;>cases j<;>by_cases h:n<m<;>simp -implicitDefEqProofs [f126,h]
theorem ca_plus2 (i j:Bool)(n m:Int):Ca E1 125 [.d (Sv.c i n).w.d,.d (Sv.c j m).w.d] (.d (plusK 2 (.c i n) (.c j m)).w.d,none):=by
 obtain ⟨N,t⟩:=(ca_less2 j i m n).get
 refine Ca.ofS (n:=N+60) ?_
 rw [CL_fn rfl (k125:E1.fn _=_) rfl]
 have e:plusK 2 (.c i n) (.c j m)=if lessC j m i n then .c j m else .c i n:=rfl
 rw [e]
 clear e
 generalize lessC j m i n=b at *
 cases b
 ·simp only [Sv.w,W.d,W.ds,PD,LD,LL,List.map_nil,Bool.false_eq_true,if_false] at *
  simp -implicitDefEqProofs [f125,t]
 ·simp only [Sv.w,W.d,W.ds,PD,LD,LL,List.map_nil,if_true] at *
  simp -implicitDefEqProofs [f125,t]
theorem ca_times2 (i j:Bool)(n m:Int)(hn:0≤n∧n≤1099511627776)(hm:0≤m∧m≤1099511627776):Ca E1 127 [.d (Sv.c i n).w.d,.d (Sv.c j m).w.d] (.d (timesK (.c i n) (.c j m)).w.d,none):=by
 have w1:wrapS .i64 (n+m)=n+m:=wrap_i64 (by omega)
 refine Ca.ofS (n:=60) ?_
 rw [CL_fn rfl (k127:E1.fn _=_) rfl]
 unfold timesK
 cases i<;>cases j<;>by_cases h:1099511627776<n+m<;>simp -implicitDefEqProofs [f127,h,w1,Sv.w,W.d,W.ds,PD,LD,LL]
theorem ca_plus4 (u v:Int):Ca E1 142 [.d (Sv.s u).w.d,.d (Sv.s v).w.d] (.d (Sv.s (orV .u64 u v)).w.d,none):=by
 refine Ca.ofS (n:=60) ?_
 rw [CL_fn rfl (k142:E1.fn _=_) rfl]
 simp -implicitDefEqProofs [f142,Sv.w,W.d,W.ds,PD,LD,LL]
theorem ca_times4 (u v:Int):Ca E1 143 [.d (Sv.s u).w.d,.d (Sv.s v).w.d] (.d (Sv.s (andV .u64 u v)).w.d,none):=by
 refine Ca.ofS (n:=60) ?_
 rw [CL_fn rfl (k143:E1.fn _=_) rfl]
 simp -implicitDefEqProofs [f143,Sv.w,W.d,W.ds,PD,LD,LL]
theorem wP_d (l:List Ent):(Sv.p l).w.d=.a [.v (.bool false),.s 1 [],.s 1 [],.v (.int .i64 0),.v (.bool false),.v (.int .u64 0),polD l,.s 8 []]:=by
 simp only [Sv.w,W.d,W.ds,LD,LL,List.map_nil,polD_eq]
theorem ca_plus5 {S:Nat}{a b:List Ent}(ha:PV S a)(hb:PV S b)(hS:S≤1000)(hm:(a++b).length*(S+1)≤50000):Ca E1 154 [.d (Sv.p a).w.d,.d (Sv.p b).w.d] (.d (Sv.p (addP a b)).w.d,none):=by
 obtain ⟨N,t⟩:=(ca_padd ha hb hS hm).get
 refine Ca.ofS (n:=N+60) ?_
 rw [CL_fn rfl (k154:E1.fn _=_) rfl]
 simp only [wP_d]
 generalize addP a b=c at *
 unfold polD at *
 generalize (a.map fun p=>qC p.1 p.2)=x1 at *
 generalize (b.map fun p=>qC p.1 p.2)=x2 at *
 generalize (c.map fun p=>qC p.1 p.2)=x3 at *
 simp -implicitDefEqProofs [f154,t]
theorem ca_times5 {S:Nat}{a b:List Ent}(ha:PV S a)(hb:PV S b)(hS:S≤1000)(hm:a.length*(b.length*(2*S+1))≤50000):Ca E1 156 [.d (Sv.p a).w.d,.d (Sv.p b).w.d] (.d (Sv.p (mulP a b)).w.d,none):=by
 obtain ⟨N,t⟩:=(ca_pmul ha hb hS hm).get
 refine Ca.ofS (n:=N+60) ?_
 rw [CL_fn rfl (k156:E1.fn _=_) rfl]
 simp only [wP_d]
 generalize mulP a b=c at *
 unfold polD at *
 generalize (a.map fun p=>qC p.1 p.2)=x1 at *
 generalize (b.map fun p=>qC p.1 p.2)=x2 at *
 generalize (c.map fun p=>qC p.1 p.2)=x3 at *
 simp -implicitDefEqProofs [f156,t]
theorem num_pos' (x:Rat):0<x.num↔0<x:=by
 have h:=@Rat.num_nonneg (-x)
 have e:(-x).num=-x.num:=by simp
 rw [e] at h
 have h1:0<x.num↔¬ 0≤-x.num:=by omega
 have h2:0<x↔¬ 0≤-x:=by grind
 rw [h1,h2,h]
theorem ca_better3 (x y:Rat)(hx:qz x≤100000)(hy:qz y≤100000):Ca E1 136 [.d (Sv.q x).w.d,.d (Sv.q y).w.d] (.d (.v (.bool (decide (y<x)))),none):=by
 obtain ⟨N,t⟩:=(Ca.up1 (ca_compareq x y hx hy)).get
 refine Ca.ofS (n:=N+60) ?_
 rw [CL_fn rfl (k136:E1.fn _=_) rfl]
 have hs:decide ((0:Int)<(x-y).num.sign)=decide (y<x):=by
  rw [decide_eq_decide,Int.sign_pos_iff,num_pos']
  grind
 rw [← hs]
 generalize (x-y).num.sign=z at *
 simp only [Sv.w,W.d,W.ds,PD,qD,raw,LD,List.map_nil] at *
 generalize qs x=s1,qs y=s2,LL (qn x)=x1,LL (qd x)=x2,LL (qn y)=y1,LL (qd y)=y2 at *
 simp -implicitDefEqProofs [f136,t,LL]
theorem run_plus3 (x y:Rat)(hx:qz x≤90000)(hy:qz y≤90000) :
  ∃ N,∀ (B:List AObj) (j:Nat) (c0 c1 c2 c3 c4 c5 c7 c8:FV),B[j]?=some (.box [c0,c1,c2,c3,c4,c5,.d (.fn 136),c7,c8])→∀ k,CL E1 (N+k) 137 [.d (Sv.q x).w.d,.d (Sv.q y).w.d,.r (.old j) 0] B=some (.d (plusK 3 (.q x) (.q y)).w.d,none):=by
 have hz:=qz_zero
 have hxy:plusK 3 (.q x) (.q y)=.q ((if x<y then y else x)+0):=by
  have e:plusK 3 (.q x) (.q y)=if x<y then .q y else .q x:=rfl
  have e2:∀ z:Rat,z+0=z:=fun z=>Rat.add_zero z
  rw [e,e2]
  split<;>rfl
 rw [hxy]
 obtain ⟨N1,t1⟩:=(ca_better3 y x (by omega) (by omega)).any
 obtain ⟨N2,t2⟩:=(Ca.up1 (ca_addq (if x<y then y else x) 0 (by split<;>omega) (by omega))).any
 obtain ⟨M,hM⟩:∃ M,M=N1+N2:=⟨_,rfl⟩
 replace t1:=t1 M (by omega)
 replace t2:=t2 M (by omega)
 refine ⟨M+100,fun B j c0 c1 c2 c3 c4 c5 c7 c8 hB k => ?_⟩
 have hjl:j<B.length:=(List.getElem?_eq_some_iff.1 hB).1
 have hBi:∀ L,(B++L)[j]?=some (.box [c0,c1,c2,c3,c4,c5,.d (.fn 136),c7,c8]):=fun L=>by rw [List.getElem?_append_left hjl]; exact hB
 replace t1:=fun m=>t1 (k+m)
 replace t2:=fun m=>t2 (k+m)
 simp only [← Nat.add_assoc] at t1 t2
 rw [show M+100+k=M+k+100 by omega]
 generalize M+k=m at *
 rw [qD_zero] at t2
 rw [CL_fn rfl (k137:E1.fn _=_) rfl]
 by_cases h:x<y
 ·rw [if_pos h] at t2 ⊢
  rw [decide_eq_true h] at t1
  generalize y+0=z at *
  simp only [Sv.w,W.d,W.ds,PD,qD,raw,LD,List.map_nil] at *
  generalize qs x=s1,qs y=s2,qs z=s3,LL (qn x)=x1,LL (qd x)=x2,LL (qn y)=y1,LL (qd y)=y2,LL (qn z)=z1,LL (qd z)=z2 at *
  simp -implicitDefEqProofs [f137,t1,t2,hBi,LL]
 ·rw [if_neg h] at t2 ⊢
  rw [decide_eq_false h] at t1
  generalize x+0=z at *
  simp only [Sv.w,W.d,W.ds,PD,qD,raw,LD,List.map_nil] at *
  generalize qs x=s1,qs y=s2,qs z=s3,LL (qn x)=x1,LL (qd x)=x2,LL (qn y)=y1,LL (qd y)=y2,LL (qn z)=z1,LL (qd z)=z2 at *
  simp -implicitDefEqProofs [f137,t1,t2,hBi,LL]
section
def wD (s:Bool)(l1 l2:List D)(c:Int)(b:Bool)(u:Int)(p ps:List D):D:=.a [.v (.bool s),.s 1 l1,.s 1 l2,.v (.int .i64 c),.v (.bool b),.v (.int .u64 u),.s 6 p,.s 8 ps]
theorem W.wD_of (w:W):∃ s l1 l2 c b u p ps,w.d=wD s l1 l2 c b u p ps:=by
 obtain ⟨s,a,b,c,i,u,p,ps⟩:=w
 exact ⟨s,LL a,LL b,c,i,u,p.map Mo.d,W.ds ps,rfl⟩
section parts
variable (H:List AObj) (iv iw i:Nat) (v0 v1 v2 v3 v4 v5 v6 w0 w1 w2 w3 w4 w5 w6:FV) (vs ws:List D) (x y z:W)
theorem run45a (hv:H[iv]?=some (.box [v0,v1,v2,v3,v4,v5,v6,.d (.s 8 vs)]))(hw:H[iw]?=some (.box [w0,w1,w2,w3,w4,w5,w6,.d (.s 8 ws)]))(hx:vs[i]?=some x.d)(hy:ws[i]?=some y.d)
  (c0 c1 c2 c4 c5 c6 c7 c8 a b:Nat) (g M:Nat) (t:∀ m,CL E1 (M+m) g [.d x.d,.d y.d] []=some (.d z.d,none)) (m:Nat) :
  CL E1 (M+100+m) 45 [.a [.d (.fn c0),.d (.fn c1),.d (.fn c2),.d (.fn g),.d (.fn c4),.f c5 [] [.r (.old a) 0],.d (.fn c6),.d (.fn c7),.f c8 [] [.r (.old b) 0]],.d (.v (.int .i64 i)),.r (.old iv) 0,.r (.old iw) 0] H=some (.d z.d,none):=by
 have hvl:iv<H.length:=(List.getElem?_eq_some_iff.1 hv).1
 have hwl:iw<H.length:=(List.getElem?_eq_some_iff.1 hw).1
 have gv:∀ L,(H++L)[iv]?=some (.box [v0,v1,v2,v3,v4,v5,v6,.d (.s 8 vs)]):=fun L=>by rw [List.getElem?_append_left hvl]; exact hv
 have gw:∀ L,(H++L)[iw]?=some (.box [w0,w1,w2,w3,w4,w5,w6,.d (.s 8 ws)]):=fun L=>by rw [List.getElem?_append_left hwl]; exact hw
 have i1:i<vs.length:=(List.getElem?_eq_some_iff.1 hx).1
 have i2:i<ws.length:=(List.getElem?_eq_some_iff.1 hy).1
 have hi0:(0:Int)≤(i:Int):=by omega
 obtain ⟨xs,xl1,xl2,xc,xb,xu,xp,xps,ex⟩:=x.wD_of
 obtain ⟨ys,yl1,yl2,yc,yb,yu,yp,yps,ey⟩:=y.wD_of
 obtain ⟨zs,zl1,zl2,zc,zb,zu,zp,zps,ez⟩:=z.wD_of
 rw [ex] at hx t
 rw [ey] at hy t
 rw [ez] at t ⊢
 replace t:=fun k=>t (m+k)
 simp only [← Nat.add_assoc] at t
 rw [show M+100+m=M+m+100 by omega]
 generalize M+m=n at *
 rw [CL_fn rfl (k45:E1.fn _=_) rfl]
 unfold wD at *
 have j1:=idx hx
 have j2:=idx hy
 simp -implicitDefEqProofs [f45,t,gv,gw,i1,i2,hi0,j1,j2,hx,hy]
theorem run45d (hv:H[iv]?=some (.box [v0,v1,v2,v3,v4,v5,v6,.d (.s 8 vs)]))(hw:H[iw]?=some (.box [w0,w1,w2,w3,w4,w5,w6,.d (.s 8 ws)]))(hx:vs[i]?=some x.d)(hy:ws[i]?=some y.d)
  (c0 c1 c2 c4 c5 c6 c7 c8:Nat) (g M:Nat) (t:∀ m,CL E1 (M+m) g [.d x.d,.d y.d] []=some (.d z.d,none)) (m:Nat) :
  CL E1 (M+100+m) 45 [.d (.a [.fn c0,.fn c1,.fn c2,.fn g,.fn c4,.fn c5,.fn c6,.fn c7,.fn c8]),.d (.v (.int .i64 i)),.r (.old iv) 0,.r (.old iw) 0] H=some (.d z.d,none):=by
 have hvl:iv<H.length:=(List.getElem?_eq_some_iff.1 hv).1
 have hwl:iw<H.length:=(List.getElem?_eq_some_iff.1 hw).1
 have gv:∀ L,(H++L)[iv]?=some (.box [v0,v1,v2,v3,v4,v5,v6,.d (.s 8 vs)]):=fun L=>by rw [List.getElem?_append_left hvl]; exact hv
 have gw:∀ L,(H++L)[iw]?=some (.box [w0,w1,w2,w3,w4,w5,w6,.d (.s 8 ws)]):=fun L=>by rw [List.getElem?_append_left hwl]; exact hw
 have i1:i<vs.length:=(List.getElem?_eq_some_iff.1 hx).1
 have i2:i<ws.length:=(List.getElem?_eq_some_iff.1 hy).1
 have hi0:(0:Int)≤(i:Int):=by omega
 obtain ⟨xs,xl1,xl2,xc,xb,xu,xp,xps,ex⟩:=x.wD_of
 obtain ⟨ys,yl1,yl2,yc,yb,yu,yp,yps,ey⟩:=y.wD_of
 obtain ⟨zs,zl1,zl2,zc,zb,zu,zp,zps,ez⟩:=z.wD_of
 rw [ex] at hx t
 rw [ey] at hy t
 rw [ez] at t ⊢
 replace t:=fun k=>t (m+k)
 simp only [← Nat.add_assoc] at t
 rw [show M+100+m=M+m+100 by omega]
 generalize M+m=n at *
 rw [CL_fn rfl (k45:E1.fn _=_) rfl]
 unfold wD at *
 have j1:=idx hx
 have j2:=idx hy
 simp -implicitDefEqProofs [f45,t,gv,gw,i1,i2,hi0,j1,j2,hx,hy]
theorem run45c (hv:H[iv]?=some (.box [v0,v1,v2,v3,v4,v5,v6,.d (.s 8 vs)]))(hw:H[iw]?=some (.box [w0,w1,w2,w3,w4,w5,w6,.d (.s 8 ws)]))(hx:vs[i]?=some x.d)(hy:ws[i]?=some y.d)
  (c0 c1 c2 c4 c5 c6 c7 c8 a b:Nat) (j M:Nat) (o:AObj) (hj:H[j]?=some o) (ho:∀ n,AObj.toOld n o=o) (t:∀ B,B[j]?=some o→∀ m,CL E1 (M+m) 137 [.d x.d,.d y.d,.r (.old j) 0] B=some (.d z.d,none)) (m:Nat) :
  CL E1 (M+100+m) 45 [.a [.d (.fn c0),.d (.fn c1),.d (.fn c2),.f 137 [] [.r (.old j) 0],.d (.fn c4),.f c5 [] [.r (.old a) 0],.d (.fn c6),.d (.fn c7),.f c8 [] [.r (.old b) 0]],.d (.v (.int .i64 i)),.r (.old iv) 0,.r (.old iw) 0] H=some (.d z.d,none):=by
 have hvl:iv<H.length:=(List.getElem?_eq_some_iff.1 hv).1
 have hwl:iw<H.length:=(List.getElem?_eq_some_iff.1 hw).1
 have hjl:j<H.length:=(List.getElem?_eq_some_iff.1 hj).1
 have gv:∀ L,(H++L)[iv]?=some (.box [v0,v1,v2,v3,v4,v5,v6,.d (.s 8 vs)]):=fun L=>by rw [List.getElem?_append_left hvl]; exact hv
 have gw:∀ L,(H++L)[iw]?=some (.box [w0,w1,w2,w3,w4,w5,w6,.d (.s 8 ws)]):=fun L=>by rw [List.getElem?_append_left hwl]; exact hw
 have i1:i<vs.length:=(List.getElem?_eq_some_iff.1 hx).1
 have i2:i<ws.length:=(List.getElem?_eq_some_iff.1 hy).1
 have hi0:(0:Int)≤(i:Int):=by omega
 obtain ⟨xs,xl1,xl2,xc,xb,xu,xp,xps,ex⟩:=x.wD_of
 obtain ⟨ys,yl1,yl2,yc,yb,yu,yp,yps,ey⟩:=y.wD_of
 obtain ⟨zs,zl1,zl2,zc,zb,zu,zp,zps,ez⟩:=z.wD_of
 rw [ex] at hx t
 rw [ey] at hy t
 rw [ez] at t ⊢
 have gj:∀ L,(List.map (AObj.toOld H.length) H++L)[j]?=some o:=fun L=>by rw [List.getElem?_append_left (by simpa using hjl),List.getElem?_map,hj]; exact congrArg some (ho _)
 replace t:=fun L k=>t (List.map (AObj.toOld H.length) H++L) (gj L) (m+k)
 simp only [← Nat.add_assoc] at t
 rw [show M+100+m=M+m+100 by omega]
 generalize M+m=n at *
 rw [CL_fn rfl (k45:E1.fn _=_) rfl]
 unfold wD at *
 have j1:=idx hx
 have j2:=idx hy
 simp -implicitDefEqProofs [f45,t,FV.toOld,FV.toOldL,gv,gw,i1,i2,hi0,j1,j2,hx,hy]
end parts
end
def algO (k:Int)(o:Nat):FV :=
 if k=1 then kindV1 else if k=5 then kindV5
 else if k=2 then .a [(.d (.fn 122)),(.d (.fn 123)),(.d (.fn 124)),(.d (.fn 125)),(.d (.fn 127)),(.f 195 [] [(.r (.old (o+3)) 0)]),(.d (.fn 126)),(.d (.fn 128)),(.f 131 [] [(.r (.old (o+2)) 0)])]
 else if k=3 then .a [(.d (.fn 133)),(.d (.fn 110)),(.d (.fn 111)),(.f 137 [] [(.r (.old (o+2)) 0)]),(.d (.fn 115)),(.f 195 [] [(.r (.old (o+3)) 0)]),(.d (.fn 136)),(.d (.fn 119)),(.f 138 [] [(.r (.old (o+2)) 0)])]
 else .a [(.d (.fn 139)),(.d (.fn 140)),(.d (.fn 141)),(.d (.fn 142)),(.d (.fn 143)),(.f 195 [] [(.r (.old (o+3)) 0)]),(.d (.fn 118)),(.d (.fn 144)),(.f 147 [] [(.r (.old (o+2)) 0)])]
def box3 (o:Nat):AObj:=.box [(.d (.fn 133)),(.d (.fn 110)),(.d (.fn 111)),(.f 137 [] [(.r (.old (o+2)) 0)]),(.d (.fn 115)),(.f 195 [] [(.r (.old (o+3)) 0)]),(.d (.fn 136)),(.d (.fn 119)),(.f 138 [] [(.r (.old (o+2)) 0)])]
theorem box3_old (o n:Nat):AObj.toOld n (box3 o)=box3 o:=by simp [box3,AObj.toOld,FV.toOld,FV.toOldL]
def zBox (px:FV):AObj:=.box [.d (.v (.bool false)),.d (.n 1),.d (.n 1),.d (.v (.int .i64 0)),.d (.v (.bool false)),.d (.v (.int .u64 0)),.d (.n 6),px]
def OutAt8 (px:FV)(L:List AObj)(zs:List D):Prop:=(px=.d (.n 8)∧zs=[])∨∃ j ver,px=.ls (.loc j) ver 8 0 zs.length∧L[j]?=some (.row ver 8 zs)
def eaL:FStmt:=f43.body.r.r.l.r.bl.lp
def eaS (g iv iw:Nat)(ps:List Int)(i:Nat)(t:FV)(B L:List AObj):St :=
 {vars:=[.u,.f g [] [.r (.old iv) 0,.r (.old iw) 0],.u,.r (.loc 1) 0,.r (.loc 2) 0,.u,.u,.d (.s 1 (LK .i64 ps)),.d (.v (.int .i64 ps.length)),.d (.v (.int .i64 i)),t],base:=B,loc:=L,dirty:=false}
def StepAt (g iv iw:Nat)(vb wb:AObj)(k:Int)(i:Nat)(z:W):Prop :=
 ∃ N,∀ (H:List AObj) (o:Nat),H[iv]?=some vb→H[iw]?=some wb→(k=3→H[o+2]?=some (box3 o))→∀ m,CL E1 (N+m) g [algO k o,.d (.v (.int .i64 i)),.r (.old iv) 0,.r (.old iw) 0] H=some (.d z.d,none)
theorem ea_round (g iv iw:Nat)(ps:List Int)(i:Nat)(k:Int)(B L:List AObj)(vb wb:AObj)(px:FV)(zs:List D)(z:W)(hk:ps[i]?=some k)(hs:single k=true)(hn:ps.length≤3)
  (hv:B[iv]?=some vb) (hw:B[iw]?=some wb) (ov:∀ n,AObj.toOld n vb=vb) (ow:∀ n,AObj.toOld n wb=wb) (hst0:StepAt g iv iw vb wb k i z) (h1:L[1]?=some (zBox (.d (.n 8)))) (h2:L[2]?=some (zBox px)) (ho:OutAt8 px L zs) (hz:zs.length≤3) :
  ∃ px' L',Ex E1 eaL (eaS g iv iw ps i .u B L) (.norm,eaS g iv iw ps (i+1) .u B L')∧L'[1]?=some (zBox (.d (.n 8)))∧L'[2]?=some (zBox px')∧OutAt8 px' L' (zs++[z.d]):=by
 obtain ⟨N,t⟩:=hst0
 have hvl:iv<B.length:=(List.getElem?_eq_some_iff.1 hv).1
 have hwl:iw<B.length:=(List.getElem?_eq_some_iff.1 hw).1
 have h1l:1<L.length:=(List.getElem?_eq_some_iff.1 h1).1
 have h2l:2<L.length:=(List.getElem?_eq_some_iff.1 h2).1
 have hil:i<ps.length:=(List.getElem?_eq_some_iff.1 hk).1
 have n1:(LK .i64 ps).length=ps.length:=by simp [LK]
 have e1:(LK .i64 ps)[i]?=some (.v (.int .i64 k)):=by simp [LK,hk]
 have hinc:wrapS .i64 ((i:Int)+1)=(i:Int)+1:=wrap_i64 (by omega)
 have hk1:((i+1:Nat):Int)=(i:Int)+1:=by omega
 have hk0:(0:Int)≤(i:Int):=by omega
 have hkc:(i:Int)<(ps.length:Int):=by omega
 obtain ⟨zs1,zl1,zl2,zc,zb,zu,zp,zps,ez⟩:=z.wD_of
 rw [ez] at t ⊢
 unfold wD at *
 have hvH:∀ L,(List.map (AObj.toOld B.length) B++L)[iv]?=some vb:=fun L=>by rw [List.getElem?_append_left (by simpa using hvl),List.getElem?_map,hv]; exact congrArg some (ov _)
 have hwH:∀ L,(List.map (AObj.toOld B.length) B++L)[iw]?=some wb:=fun L=>by rw [List.getElem?_append_left (by simpa using hwl),List.getElem?_map,hw]; exact congrArg some (ow _)
 have cases5:=single_five hs
 rcases cases5 with rfl | rfl | rfl | rfl | rfl
 ·obtain ⟨K,t42⟩:=(Ca.up1 (Ca.of cl_kind1)).any
  obtain ⟨M,hM⟩:∃ M,M=N+K:=⟨_,rfl⟩
  replace t42:=t42 M (by omega)
  replace t:=fun m=>CL_mono (t (List.map (AObj.toOld B.length) B++List.map (AObj.toOld B.length) L) (B.length+L.length) (hvH _) (hwH _) (fun h=>by cases h) 0) (show N+0≤M+m by omega)
  simp [algO] at t
  try simp only [Nat.add_assoc] at t
  unfold kindV1 alg1 at *
  rcases ho with ⟨rfl,rfl⟩ | ⟨j,ver,rfl,hj⟩
  ·have g2:∀ X,(L++X)[2]?=some (zBox (.d (.n 8))):=fun X=>by rw [List.getElem?_append_left h2l]; exact h2
   refine ⟨.ls (.loc L.length) 0 8 0 1,(L.set 2 (zBox (.ls (.loc L.length) 0 8 0 1)))++[.row 0 8 [(.a [D.v (.bool zs1),.s 1 zl1,.s 1 zl2,.v (.int .i64 zc),.v (.bool zb),.v (.int .u64 zu),.s 6 zp,.s 8 zps])]],Ex.of (n:=M+100) ?_, ?_, ?_, ?_⟩
   ·unfold eaS
    rw [hk1]
    clear hvH hwH ov ow hv hw h1
    unfold zBox at *
    generalize LK .i64 ps=l1 at *
    have i1:=idx e1
    have i2:=idx h2
    simp -implicitDefEqProofs [eaL,f43,hinc,hk0,hkc,hil,n1,e1,i1,t42,t,FV.toOld,FV.toOldL,FV.shift,FV.shiftL,AObj.shift,AObj.toOld,most,i2,h2,h2l,g2]
   ·rw [List.getElem?_append_left (by simpa using h1l),List.getElem?_set_ne (by omega)]
    exact h1
   ·rw [List.getElem?_append_left (by simpa using h2l)]
    exact List.getElem?_set_self h2l
   ·exact .inr ⟨L.length,0,rfl,by simp⟩
  ·have hjl:j<L.length:=(List.getElem?_eq_some_iff.1 hj).1
   have hj2:j≠2:=fun h=>by
    subst h
    rw [h2] at hj
    cases hj
   have hj1:j≠1:=fun h=>by
    subst h
    rw [h1] at hj
    cases hj
   have g2:∀ X,(L++X)[2]?=some (zBox (.ls (.loc j) ver 8 0 zs.length)):=fun X=>by rw [List.getElem?_append_left h2l]; exact h2
   have gj:∀ X,(L++X)[j]?=some (.row ver 8 zs):=fun X=>by rw [List.getElem?_append_left hjl]; exact hj
   have s2:∀ r,(L.set j r)[2]?=some (zBox (.ls (.loc j) ver 8 0 zs.length)):=fun r=>by rw [List.getElem?_set_ne hj2]; exact h2
   have s2X:∀ r X,(L.set j r++X)[2]?=some (zBox (.ls (.loc j) ver 8 0 zs.length)):=fun r X=>by rw [List.getElem?_append_left (by simpa using h2l)]; exact s2 r
   have m1:(zs.length+1)*128≤1099511627776:=by omega
   have m2:zs.length+1≤1099511627776:=by omega
   refine ⟨.ls (.loc j) (ver+1) 8 0 (zs.length+1),((L.set j (.row (ver+1) 8 (zs++[(.a [D.v (.bool zs1),.s 1 zl1,.s 1 zl2,.v (.int .i64 zc),.v (.bool zb),.v (.int .u64 zu),.s 6 zp,.s 8 zps])]))).set 2 (zBox (.ls (.loc j) (ver+1) 8 0 (zs.length+1)))),Ex.of (n:=M+100) ?_, ?_, ?_, ?_⟩
   ·unfold eaS
    rw [hk1]
    clear hvH hwH ov ow hv hw h1
    unfold zBox at *
    generalize LK .i64 ps=l1 at *
    have i1:=idx e1
    have i2:=idx h2
    have i3:=idx hj
    have i4:∀ r (h:2<(L.set j r).length),(L.set j r)[2]=_:=fun r h=>idx (s2 r) h
    simp -implicitDefEqProofs [eaL,f43,hinc,hk0,hkc,hil,n1,e1,i1,t42,t,FV.toOld,FV.toOldL,FV.shift,FV.shiftL,AObj.shift,AObj.toOld,most,i2,i3,i4,h2,h2l,g2,hj,hjl,gj,s2,s2X,m1,m2]
   ·rw [List.getElem?_set_ne (by omega),List.getElem?_set_ne hj1]; exact h1
   ·exact List.getElem?_set_self (by simpa using h2l)
   ·refine .inr ⟨j,ver+1,by simp, ?_⟩
    rw [List.getElem?_set_ne (fun h=>hj2 h.symm)]
    exact List.getElem?_set_self hjl
 ·obtain ⟨K,t42⟩:=(Ca.up1 (Ca.of cl_kind2)).any
  obtain ⟨M,hM⟩:∃ M,M=N+K:=⟨_,rfl⟩
  replace t42:=t42 M (by omega)
  replace t:=fun m=>CL_mono (t (List.map (AObj.toOld B.length) B++(List.map (AObj.toOld B.length) L++[.box [(.d (.fn 122)),(.d (.fn 123)),(.d (.fn 124)),(.d (.fn 125)),(.d (.fn 127)),(.f 195 [] [(.r (.old ((B.length+L.length)+3)) 0)]),(.d (.fn 126)),(.d (.fn 128)),(.f 131 [] [(.r (.old ((B.length+L.length)+2)) 0)])],.box [(.d (.fn 122)),(.d (.fn 123)),(.d (.fn 124)),(.d (.fn 125)),(.d (.fn 127)),(.f 195 [] [(.r (.old ((B.length+L.length)+3)) 0)]),(.d (.fn 126)),(.d (.fn 128)),(.f 131 [] [(.r (.old ((B.length+L.length)+2)) 0)])],.box [(.d (.fn 122)),(.d (.fn 123)),(.d (.fn 124)),(.d (.fn 125)),(.d (.fn 127)),(.f 195 [] [(.r (.old ((B.length+L.length)+3)) 0)]),(.d (.fn 126)),(.d (.fn 128)),(.f 131 [] [(.r (.old ((B.length+L.length)+2)) 0)])],.box [(.d (.fn 124))]])) (B.length+L.length) (hvH _) (hwH _) (fun h=>by cases h) 0) (show N+0≤M+m by omega)
  simp [algO] at t
  try simp only [Nat.add_assoc] at t
  unfold kindV2 kindB2 kindL2 at *
  rcases ho with ⟨rfl,rfl⟩ | ⟨j,ver,rfl,hj⟩
  ·have g2:∀ X,(L++X)[2]?=some (zBox (.d (.n 8))):=fun X=>by rw [List.getElem?_append_left h2l]; exact h2
   refine ⟨.ls (.loc (L.length+4)) 0 8 0 1,(L.set 2 (zBox (.ls (.loc (L.length+4)) 0 8 0 1)))++[.box [(.d (.fn 122)),(.d (.fn 123)),(.d (.fn 124)),(.d (.fn 125)),(.d (.fn 127)),(.f 195 [] [(.r (.loc (L.length+3)) 0)]),(.d (.fn 126)),(.d (.fn 128)),(.f 131 [] [(.r (.loc (L.length+2)) 0)])],.box [(.d (.fn 122)),(.d (.fn 123)),(.d (.fn 124)),(.d (.fn 125)),(.d (.fn 127)),(.f 195 [] [(.r (.loc (L.length+3)) 0)]),(.d (.fn 126)),(.d (.fn 128)),(.f 131 [] [(.r (.loc (L.length+2)) 0)])],.box [(.d (.fn 122)),(.d (.fn 123)),(.d (.fn 124)),(.d (.fn 125)),(.d (.fn 127)),(.f 195 [] [(.r (.loc (L.length+3)) 0)]),(.d (.fn 126)),(.d (.fn 128)),(.f 131 [] [(.r (.loc (L.length+2)) 0)])],.box [(.d (.fn 124))]]++[.row 0 8 [(.a [D.v (.bool zs1),.s 1 zl1,.s 1 zl2,.v (.int .i64 zc),.v (.bool zb),.v (.int .u64 zu),.s 6 zp,.s 8 zps])]],Ex.of (n:=M+100) ?_, ?_, ?_, ?_⟩
   ·unfold eaS
    rw [hk1]
    clear hvH hwH ov ow hv hw h1
    unfold zBox at *
    generalize LK .i64 ps=l1 at *
    have i1:=idx e1
    have i2:=idx h2
    simp -implicitDefEqProofs [eaL,f43,hinc,hk0,hkc,hil,n1,e1,i1,t42,t,FV.toOld,FV.toOldL,FV.shift,FV.shiftL,AObj.shift,AObj.toOld,most,i2,h2,h2l,g2]
   ·rw [List.append_assoc,List.getElem?_append_left (by simpa using h1l),List.getElem?_set_ne (by omega)]
    exact h1
   ·rw [List.append_assoc,List.getElem?_append_left (by simpa using h2l)]
    exact List.getElem?_set_self h2l
   ·exact .inr ⟨(L.length+4),0,rfl,by simp⟩
  ·have hjl:j<L.length:=(List.getElem?_eq_some_iff.1 hj).1
   have hj2:j≠2:=fun h=>by
    subst h
    rw [h2] at hj
    cases hj
   have hj1:j≠1:=fun h=>by
    subst h
    rw [h1] at hj
    cases hj
   have g2:∀ X,(L++X)[2]?=some (zBox (.ls (.loc j) ver 8 0 zs.length)):=fun X=>by rw [List.getElem?_append_left h2l]; exact h2
   have gj:∀ X,(L++X)[j]?=some (.row ver 8 zs):=fun X=>by rw [List.getElem?_append_left hjl]; exact hj
   have s2:∀ r,(L.set j r)[2]?=some (zBox (.ls (.loc j) ver 8 0 zs.length)):=fun r=>by rw [List.getElem?_set_ne hj2]; exact h2
   have s2X:∀ r X,(L.set j r++X)[2]?=some (zBox (.ls (.loc j) ver 8 0 zs.length)):=fun r X=>by rw [List.getElem?_append_left (by simpa using h2l)]; exact s2 r
   have m1:(zs.length+1)*128≤1099511627776:=by omega
   have m2:zs.length+1≤1099511627776:=by omega
   refine ⟨.ls (.loc j) (ver+1) 8 0 (zs.length+1),((L.set j (.row (ver+1) 8 (zs++[(.a [D.v (.bool zs1),.s 1 zl1,.s 1 zl2,.v (.int .i64 zc),.v (.bool zb),.v (.int .u64 zu),.s 6 zp,.s 8 zps])]))).set 2 (zBox (.ls (.loc j) (ver+1) 8 0 (zs.length+1))))++[.box [(.d (.fn 122)),(.d (.fn 123)),(.d (.fn 124)),(.d (.fn 125)),(.d (.fn 127)),(.f 195 [] [(.r (.loc (L.length+3)) 0)]),(.d (.fn 126)),(.d (.fn 128)),(.f 131 [] [(.r (.loc (L.length+2)) 0)])],.box [(.d (.fn 122)),(.d (.fn 123)),(.d (.fn 124)),(.d (.fn 125)),(.d (.fn 127)),(.f 195 [] [(.r (.loc (L.length+3)) 0)]),(.d (.fn 126)),(.d (.fn 128)),(.f 131 [] [(.r (.loc (L.length+2)) 0)])],.box [(.d (.fn 122)),(.d (.fn 123)),(.d (.fn 124)),(.d (.fn 125)),(.d (.fn 127)),(.f 195 [] [(.r (.loc (L.length+3)) 0)]),(.d (.fn 126)),(.d (.fn 128)),(.f 131 [] [(.r (.loc (L.length+2)) 0)])],.box [(.d (.fn 124))]],Ex.of (n:=M+100) ?_, ?_, ?_, ?_⟩
   ·unfold eaS
    rw [hk1]
    clear hvH hwH ov ow hv hw h1
    unfold zBox at *
    generalize LK .i64 ps=l1 at *
    have i1:=idx e1
    have i2:=idx h2
    have i3:=idx hj
    have i4:∀ r (h:2<(L.set j r).length),(L.set j r)[2]=_:=fun r h=>idx (s2 r) h
    simp -implicitDefEqProofs [eaL,f43,hinc,hk0,hkc,hil,n1,e1,i1,t42,t,FV.toOld,FV.toOldL,FV.shift,FV.shiftL,AObj.shift,AObj.toOld,most,i2,i3,i4,h2,h2l,g2,hj,hjl,gj,s2,s2X,m1,m2]
   ·rw [List.getElem?_append_left (by simpa using h1l)]; rw [List.getElem?_set_ne (by omega),List.getElem?_set_ne hj1]; exact h1
   ·rw [List.getElem?_append_left (by simpa using h2l)]; exact List.getElem?_set_self (by simpa using h2l)
   ·refine .inr ⟨j,ver+1,by simp, ?_⟩
    rw [List.getElem?_append_left (by simpa using hjl)]
    rw [List.getElem?_set_ne (fun h=>hj2 h.symm)]
    exact List.getElem?_set_self hjl
 ·obtain ⟨K,t42⟩:=(Ca.up1 (Ca.of cl_kind3)).any
  obtain ⟨M,hM⟩:∃ M,M=N+K:=⟨_,rfl⟩
  replace t42:=t42 M (by omega)
  replace t:=fun m=>CL_mono (t (List.map (AObj.toOld B.length) B++(List.map (AObj.toOld B.length) L++[.box [(.d (.fn 133)),(.d (.fn 110)),(.d (.fn 111)),(.f 137 [] [(.r (.old ((B.length+L.length)+2)) 0)]),(.d (.fn 115)),(.f 195 [] [(.r (.old ((B.length+L.length)+3)) 0)]),(.d (.fn 136)),(.d (.fn 119)),(.f 138 [] [(.r (.old ((B.length+L.length)+2)) 0)])],.box [(.d (.fn 133)),(.d (.fn 110)),(.d (.fn 111)),(.f 137 [] [(.r (.old ((B.length+L.length)+2)) 0)]),(.d (.fn 115)),(.f 195 [] [(.r (.old ((B.length+L.length)+3)) 0)]),(.d (.fn 136)),(.d (.fn 119)),(.f 138 [] [(.r (.old ((B.length+L.length)+2)) 0)])],.box [(.d (.fn 133)),(.d (.fn 110)),(.d (.fn 111)),(.f 137 [] [(.r (.old ((B.length+L.length)+2)) 0)]),(.d (.fn 115)),(.f 195 [] [(.r (.old ((B.length+L.length)+3)) 0)]),(.d (.fn 136)),(.d (.fn 119)),(.f 138 [] [(.r (.old ((B.length+L.length)+2)) 0)])],.box [(.d (.fn 111))]])) (B.length+L.length) (hvH _) (hwH _) (fun _=>by rw [List.getElem?_append_right (by simp; omega)]; simp [box3]; rw [List.getElem?_append_right (by simp; omega)]; simp; rw [show B.length+L.length+2-B.length-L.length=2 by omega]; rfl) 0) (show N+0≤M+m by omega)
  simp [algO] at t
  try simp only [Nat.add_assoc] at t
  unfold kindV3 kindB3 kindL3 at *
  rcases ho with ⟨rfl,rfl⟩ | ⟨j,ver,rfl,hj⟩
  ·have g2:∀ X,(L++X)[2]?=some (zBox (.d (.n 8))):=fun X=>by rw [List.getElem?_append_left h2l]; exact h2
   refine ⟨.ls (.loc (L.length+4)) 0 8 0 1,(L.set 2 (zBox (.ls (.loc (L.length+4)) 0 8 0 1)))++[.box [(.d (.fn 133)),(.d (.fn 110)),(.d (.fn 111)),(.f 137 [] [(.r (.loc (L.length+2)) 0)]),(.d (.fn 115)),(.f 195 [] [(.r (.loc (L.length+3)) 0)]),(.d (.fn 136)),(.d (.fn 119)),(.f 138 [] [(.r (.loc (L.length+2)) 0)])],.box [(.d (.fn 133)),(.d (.fn 110)),(.d (.fn 111)),(.f 137 [] [(.r (.loc (L.length+2)) 0)]),(.d (.fn 115)),(.f 195 [] [(.r (.loc (L.length+3)) 0)]),(.d (.fn 136)),(.d (.fn 119)),(.f 138 [] [(.r (.loc (L.length+2)) 0)])],.box [(.d (.fn 133)),(.d (.fn 110)),(.d (.fn 111)),(.f 137 [] [(.r (.loc (L.length+2)) 0)]),(.d (.fn 115)),(.f 195 [] [(.r (.loc (L.length+3)) 0)]),(.d (.fn 136)),(.d (.fn 119)),(.f 138 [] [(.r (.loc (L.length+2)) 0)])],.box [(.d (.fn 111))]]++[.row 0 8 [(.a [D.v (.bool zs1),.s 1 zl1,.s 1 zl2,.v (.int .i64 zc),.v (.bool zb),.v (.int .u64 zu),.s 6 zp,.s 8 zps])]],Ex.of (n:=M+100) ?_, ?_, ?_, ?_⟩
   ·unfold eaS
    rw [hk1]
    clear hvH hwH ov ow hv hw h1
    unfold zBox at *
    generalize LK .i64 ps=l1 at *
    have i1:=idx e1
    have i2:=idx h2
    simp -implicitDefEqProofs [eaL,f43,hinc,hk0,hkc,hil,n1,e1,i1,t42,t,FV.toOld,FV.toOldL,FV.shift,FV.shiftL,AObj.shift,AObj.toOld,most,i2,h2,h2l,g2]
   ·rw [List.append_assoc,List.getElem?_append_left (by simpa using h1l),List.getElem?_set_ne (by omega)]
    exact h1
   ·rw [List.append_assoc,List.getElem?_append_left (by simpa using h2l)]
    exact List.getElem?_set_self h2l
   ·exact .inr ⟨(L.length+4),0,rfl,by simp⟩
  ·have hjl:j<L.length:=(List.getElem?_eq_some_iff.1 hj).1
   have hj2:j≠2:=fun h=>by
    subst h
    rw [h2] at hj
    cases hj
   have hj1:j≠1:=fun h=>by
    subst h
    rw [h1] at hj
    cases hj
   have g2:∀ X,(L++X)[2]?=some (zBox (.ls (.loc j) ver 8 0 zs.length)):=fun X=>by rw [List.getElem?_append_left h2l]; exact h2
   have gj:∀ X,(L++X)[j]?=some (.row ver 8 zs):=fun X=>by rw [List.getElem?_append_left hjl]; exact hj
   have s2:∀ r,(L.set j r)[2]?=some (zBox (.ls (.loc j) ver 8 0 zs.length)):=fun r=>by rw [List.getElem?_set_ne hj2]; exact h2
   have s2X:∀ r X,(L.set j r++X)[2]?=some (zBox (.ls (.loc j) ver 8 0 zs.length)):=fun r X=>by rw [List.getElem?_append_left (by simpa using h2l)]; exact s2 r
   have m1:(zs.length+1)*128≤1099511627776:=by omega
   have m2:zs.length+1≤1099511627776:=by omega
   refine ⟨.ls (.loc j) (ver+1) 8 0 (zs.length+1),((L.set j (.row (ver+1) 8 (zs++[(.a [D.v (.bool zs1),.s 1 zl1,.s 1 zl2,.v (.int .i64 zc),.v (.bool zb),.v (.int .u64 zu),.s 6 zp,.s 8 zps])]))).set 2 (zBox (.ls (.loc j) (ver+1) 8 0 (zs.length+1))))++[.box [(.d (.fn 133)),(.d (.fn 110)),(.d (.fn 111)),(.f 137 [] [(.r (.loc (L.length+2)) 0)]),(.d (.fn 115)),(.f 195 [] [(.r (.loc (L.length+3)) 0)]),(.d (.fn 136)),(.d (.fn 119)),(.f 138 [] [(.r (.loc (L.length+2)) 0)])],.box [(.d (.fn 133)),(.d (.fn 110)),(.d (.fn 111)),(.f 137 [] [(.r (.loc (L.length+2)) 0)]),(.d (.fn 115)),(.f 195 [] [(.r (.loc (L.length+3)) 0)]),(.d (.fn 136)),(.d (.fn 119)),(.f 138 [] [(.r (.loc (L.length+2)) 0)])],.box [(.d (.fn 133)),(.d (.fn 110)),(.d (.fn 111)),(.f 137 [] [(.r (.loc (L.length+2)) 0)]),(.d (.fn 115)),(.f 195 [] [(.r (.loc (L.length+3)) 0)]),(.d (.fn 136)),(.d (.fn 119)),(.f 138 [] [(.r (.loc (L.length+2)) 0)])],.box [(.d (.fn 111))]],Ex.of (n:=M+100) ?_, ?_, ?_, ?_⟩
   ·unfold eaS
    rw [hk1]
    clear hvH hwH ov ow hv hw h1
    unfold zBox at *
    generalize LK .i64 ps=l1 at *
    have i1:=idx e1
    have i2:=idx h2
    have i3:=idx hj
    have i4:∀ r (h:2<(L.set j r).length),(L.set j r)[2]=_:=fun r h=>idx (s2 r) h
    simp -implicitDefEqProofs [eaL,f43,hinc,hk0,hkc,hil,n1,e1,i1,t42,t,FV.toOld,FV.toOldL,FV.shift,FV.shiftL,AObj.shift,AObj.toOld,most,i2,i3,i4,h2,h2l,g2,hj,hjl,gj,s2,s2X,m1,m2]
   ·rw [List.getElem?_append_left (by simpa using h1l)]; rw [List.getElem?_set_ne (by omega),List.getElem?_set_ne hj1]; exact h1
   ·rw [List.getElem?_append_left (by simpa using h2l)]; exact List.getElem?_set_self (by simpa using h2l)
   ·refine .inr ⟨j,ver+1,by simp, ?_⟩
    rw [List.getElem?_append_left (by simpa using hjl)]
    rw [List.getElem?_set_ne (fun h=>hj2 h.symm)]
    exact List.getElem?_set_self hjl
 ·obtain ⟨K,t42⟩:=(Ca.up1 (Ca.of cl_kind4)).any
  obtain ⟨M,hM⟩:∃ M,M=N+K:=⟨_,rfl⟩
  replace t42:=t42 M (by omega)
  replace t:=fun m=>CL_mono (t (List.map (AObj.toOld B.length) B++(List.map (AObj.toOld B.length) L++[.box [(.d (.fn 139)),(.d (.fn 140)),(.d (.fn 141)),(.d (.fn 142)),(.d (.fn 143)),(.f 195 [] [(.r (.old ((B.length+L.length)+3)) 0)]),(.d (.fn 118)),(.d (.fn 144)),(.f 147 [] [(.r (.old ((B.length+L.length)+2)) 0)])],.box [(.d (.fn 139)),(.d (.fn 140)),(.d (.fn 141)),(.d (.fn 142)),(.d (.fn 143)),(.f 195 [] [(.r (.old ((B.length+L.length)+3)) 0)]),(.d (.fn 118)),(.d (.fn 144)),(.f 147 [] [(.r (.old ((B.length+L.length)+2)) 0)])],.box [(.d (.fn 139)),(.d (.fn 140)),(.d (.fn 141)),(.d (.fn 142)),(.d (.fn 143)),(.f 195 [] [(.r (.old ((B.length+L.length)+3)) 0)]),(.d (.fn 118)),(.d (.fn 144)),(.f 147 [] [(.r (.old ((B.length+L.length)+2)) 0)])],.box [(.d (.fn 141))]])) (B.length+L.length) (hvH _) (hwH _) (fun h=>by cases h) 0) (show N+0≤M+m by omega)
  simp [algO] at t
  try simp only [Nat.add_assoc] at t
  unfold kindV4 kindB4 kindL4 at *
  rcases ho with ⟨rfl,rfl⟩ | ⟨j,ver,rfl,hj⟩
  ·have g2:∀ X,(L++X)[2]?=some (zBox (.d (.n 8))):=fun X=>by rw [List.getElem?_append_left h2l]; exact h2
   refine ⟨.ls (.loc (L.length+4)) 0 8 0 1,(L.set 2 (zBox (.ls (.loc (L.length+4)) 0 8 0 1)))++[.box [(.d (.fn 139)),(.d (.fn 140)),(.d (.fn 141)),(.d (.fn 142)),(.d (.fn 143)),(.f 195 [] [(.r (.loc (L.length+3)) 0)]),(.d (.fn 118)),(.d (.fn 144)),(.f 147 [] [(.r (.loc (L.length+2)) 0)])],.box [(.d (.fn 139)),(.d (.fn 140)),(.d (.fn 141)),(.d (.fn 142)),(.d (.fn 143)),(.f 195 [] [(.r (.loc (L.length+3)) 0)]),(.d (.fn 118)),(.d (.fn 144)),(.f 147 [] [(.r (.loc (L.length+2)) 0)])],.box [(.d (.fn 139)),(.d (.fn 140)),(.d (.fn 141)),(.d (.fn 142)),(.d (.fn 143)),(.f 195 [] [(.r (.loc (L.length+3)) 0)]),(.d (.fn 118)),(.d (.fn 144)),(.f 147 [] [(.r (.loc (L.length+2)) 0)])],.box [(.d (.fn 141))]]++[.row 0 8 [(.a [D.v (.bool zs1),.s 1 zl1,.s 1 zl2,.v (.int .i64 zc),.v (.bool zb),.v (.int .u64 zu),.s 6 zp,.s 8 zps])]],Ex.of (n:=M+100) ?_, ?_, ?_, ?_⟩
   ·unfold eaS
    rw [hk1]
    clear hvH hwH ov ow hv hw h1
    unfold zBox at *
    generalize LK .i64 ps=l1 at *
    have i1:=idx e1
    have i2:=idx h2
    simp -implicitDefEqProofs [eaL,f43,hinc,hk0,hkc,hil,n1,e1,i1,t42,t,FV.toOld,FV.toOldL,FV.shift,FV.shiftL,AObj.shift,AObj.toOld,most,i2,h2,h2l,g2]
   ·rw [List.append_assoc,List.getElem?_append_left (by simpa using h1l),List.getElem?_set_ne (by omega)]
    exact h1
   ·rw [List.append_assoc,List.getElem?_append_left (by simpa using h2l)]
    exact List.getElem?_set_self h2l
   ·exact .inr ⟨(L.length+4),0,rfl,by simp⟩
  ·have hjl:j<L.length:=(List.getElem?_eq_some_iff.1 hj).1
   have hj2:j≠2:=fun h=>by
    subst h
    rw [h2] at hj
    cases hj
   have hj1:j≠1:=fun h=>by
    subst h
    rw [h1] at hj
    cases hj
   have g2:∀ X,(L++X)[2]?=some (zBox (.ls (.loc j) ver 8 0 zs.length)):=fun X=>by rw [List.getElem?_append_left h2l]; exact h2
   have gj:∀ X,(L++X)[j]?=some (.row ver 8 zs):=fun X=>by rw [List.getElem?_append_left hjl]; exact hj
   have s2:∀ r,(L.set j r)[2]?=some (zBox (.ls (.loc j) ver 8 0 zs.length)):=fun r=>by rw [List.getElem?_set_ne hj2]; exact h2
   have s2X:∀ r X,(L.set j r++X)[2]?=some (zBox (.ls (.loc j) ver 8 0 zs.length)):=fun r X=>by rw [List.getElem?_append_left (by simpa using h2l)]; exact s2 r
   have m1:(zs.length+1)*128≤1099511627776:=by omega
   have m2:zs.length+1≤1099511627776:=by omega
   refine ⟨.ls (.loc j) (ver+1) 8 0 (zs.length+1),((L.set j (.row (ver+1) 8 (zs++[(.a [D.v (.bool zs1),.s 1 zl1,.s 1 zl2,.v (.int .i64 zc),.v (.bool zb),.v (.int .u64 zu),.s 6 zp,.s 8 zps])]))).set 2 (zBox (.ls (.loc j) (ver+1) 8 0 (zs.length+1))))++[.box [(.d (.fn 139)),(.d (.fn 140)),(.d (.fn 141)),(.d (.fn 142)),(.d (.fn 143)),(.f 195 [] [(.r (.loc (L.length+3)) 0)]),(.d (.fn 118)),(.d (.fn 144)),(.f 147 [] [(.r (.loc (L.length+2)) 0)])],.box [(.d (.fn 139)),(.d (.fn 140)),(.d (.fn 141)),(.d (.fn 142)),(.d (.fn 143)),(.f 195 [] [(.r (.loc (L.length+3)) 0)]),(.d (.fn 118)),(.d (.fn 144)),(.f 147 [] [(.r (.loc (L.length+2)) 0)])],.box [(.d (.fn 139)),(.d (.fn 140)),(.d (.fn 141)),(.d (.fn 142)),(.d (.fn 143)),(.f 195 [] [(.r (.loc (L.length+3)) 0)]),(.d (.fn 118)),(.d (.fn 144)),(.f 147 [] [(.r (.loc (L.length+2)) 0)])],.box [(.d (.fn 141))]],Ex.of (n:=M+100) ?_, ?_, ?_, ?_⟩
   ·unfold eaS
    rw [hk1]
    clear hvH hwH ov ow hv hw h1
    unfold zBox at *
    generalize LK .i64 ps=l1 at *
    have i1:=idx e1
    have i2:=idx h2
    have i3:=idx hj
    have i4:∀ r (h:2<(L.set j r).length),(L.set j r)[2]=_:=fun r h=>idx (s2 r) h
    simp -implicitDefEqProofs [eaL,f43,hinc,hk0,hkc,hil,n1,e1,i1,t42,t,FV.toOld,FV.toOldL,FV.shift,FV.shiftL,AObj.shift,AObj.toOld,most,i2,i3,i4,h2,h2l,g2,hj,hjl,gj,s2,s2X,m1,m2]
   ·rw [List.getElem?_append_left (by simpa using h1l)]; rw [List.getElem?_set_ne (by omega),List.getElem?_set_ne hj1]; exact h1
   ·rw [List.getElem?_append_left (by simpa using h2l)]; exact List.getElem?_set_self (by simpa using h2l)
   ·refine .inr ⟨j,ver+1,by simp, ?_⟩
    rw [List.getElem?_append_left (by simpa using hjl)]
    rw [List.getElem?_set_ne (fun h=>hj2 h.symm)]
    exact List.getElem?_set_self hjl
 ·obtain ⟨K,t42⟩:=(Ca.up1 (Ca.of cl_kind5)).any
  obtain ⟨M,hM⟩:∃ M,M=N+K:=⟨_,rfl⟩
  replace t42:=t42 M (by omega)
  replace t:=fun m=>CL_mono (t (List.map (AObj.toOld B.length) B++List.map (AObj.toOld B.length) L) (B.length+L.length) (hvH _) (hwH _) (fun h=>by cases h) 0) (show N+0≤M+m by omega)
  simp [algO] at t
  try simp only [Nat.add_assoc] at t
  unfold kindV5 at *
  rcases ho with ⟨rfl,rfl⟩ | ⟨j,ver,rfl,hj⟩
  ·have g2:∀ X,(L++X)[2]?=some (zBox (.d (.n 8))):=fun X=>by rw [List.getElem?_append_left h2l]; exact h2
   refine ⟨.ls (.loc L.length) 0 8 0 1,(L.set 2 (zBox (.ls (.loc L.length) 0 8 0 1)))++[.row 0 8 [(.a [D.v (.bool zs1),.s 1 zl1,.s 1 zl2,.v (.int .i64 zc),.v (.bool zb),.v (.int .u64 zu),.s 6 zp,.s 8 zps])]],Ex.of (n:=M+100) ?_, ?_, ?_, ?_⟩
   ·unfold eaS
    rw [hk1]
    clear hvH hwH ov ow hv hw h1
    unfold zBox at *
    generalize LK .i64 ps=l1 at *
    have i1:=idx e1
    have i2:=idx h2
    simp -implicitDefEqProofs [eaL,f43,hinc,hk0,hkc,hil,n1,e1,i1,t42,t,FV.toOld,FV.toOldL,FV.shift,FV.shiftL,AObj.shift,AObj.toOld,most,i2,h2,h2l,g2]
   ·rw [List.getElem?_append_left (by simpa using h1l),List.getElem?_set_ne (by omega)]
    exact h1
   ·rw [List.getElem?_append_left (by simpa using h2l)]
    exact List.getElem?_set_self h2l
   ·exact .inr ⟨L.length,0,rfl,by simp⟩
  ·have hjl:j<L.length:=(List.getElem?_eq_some_iff.1 hj).1
   have hj2:j≠2:=fun h=>by
    subst h
    rw [h2] at hj
    cases hj
   have hj1:j≠1:=fun h=>by
    subst h
    rw [h1] at hj
    cases hj
   have g2:∀ X,(L++X)[2]?=some (zBox (.ls (.loc j) ver 8 0 zs.length)):=fun X=>by rw [List.getElem?_append_left h2l]; exact h2
   have gj:∀ X,(L++X)[j]?=some (.row ver 8 zs):=fun X=>by rw [List.getElem?_append_left hjl]; exact hj
   have s2:∀ r,(L.set j r)[2]?=some (zBox (.ls (.loc j) ver 8 0 zs.length)):=fun r=>by rw [List.getElem?_set_ne hj2]; exact h2
   have s2X:∀ r X,(L.set j r++X)[2]?=some (zBox (.ls (.loc j) ver 8 0 zs.length)):=fun r X=>by rw [List.getElem?_append_left (by simpa using h2l)]; exact s2 r
   have m1:(zs.length+1)*128≤1099511627776:=by omega
   have m2:zs.length+1≤1099511627776:=by omega
   refine ⟨.ls (.loc j) (ver+1) 8 0 (zs.length+1),((L.set j (.row (ver+1) 8 (zs++[(.a [D.v (.bool zs1),.s 1 zl1,.s 1 zl2,.v (.int .i64 zc),.v (.bool zb),.v (.int .u64 zu),.s 6 zp,.s 8 zps])]))).set 2 (zBox (.ls (.loc j) (ver+1) 8 0 (zs.length+1)))),Ex.of (n:=M+100) ?_, ?_, ?_, ?_⟩
   ·unfold eaS
    rw [hk1]
    clear hvH hwH ov ow hv hw h1
    unfold zBox at *
    generalize LK .i64 ps=l1 at *
    have i1:=idx e1
    have i2:=idx h2
    have i3:=idx hj
    have i4:∀ r (h:2<(L.set j r).length),(L.set j r)[2]=_:=fun r h=>idx (s2 r) h
    simp -implicitDefEqProofs [eaL,f43,hinc,hk0,hkc,hil,n1,e1,i1,t42,t,FV.toOld,FV.toOldL,FV.shift,FV.shiftL,AObj.shift,AObj.toOld,most,i2,i3,i4,h2,h2l,g2,hj,hjl,gj,s2,s2X,m1,m2]
   ·rw [List.getElem?_set_ne (by omega),List.getElem?_set_ne hj1]; exact h1
   ·exact List.getElem?_set_self (by simpa using h2l)
   ·refine .inr ⟨j,ver+1,by simp, ?_⟩
    rw [List.getElem?_set_ne (fun h=>hj2 h.symm)]
    exact List.getElem?_set_self hjl
theorem CL_body {E:Env}{g:Nat}{F:FFunc}{args:List FV}{B:List AObj}{o:Out}{st1:St}{r:FV × Option (List AObj)}(hp:E.prim g=none)(hf:E.fn g=some F)(hl:args.length=F.np)
  (h:Ex E F.body {vars:=args++List.replicate (F.nv-F.np) .u,base:=B,loc:=[],dirty:=false} (o,st1)) (ho:∀ id,o≠.exit id) (hr:finish F st1=some r):∃ N,∀ m,CL E (N+m) g args B=some r:=by
 obtain ⟨n0,h⟩:=h
 refine ⟨n0,fun m => ?_⟩
 rw [CL_eq,call_fn hp hf hl,h (n0+m) (by omega)]
 cases o with
 | exit id=>exact absurd rfl (ho id)
 | norm=>exact hr
 | ret=>exact hr
def wProd (zs:List W):W:=.mk false [] [] 0 false 0 [] zs
theorem ea_loop (g iv iw:Nat)(ps:List Int)(B:List AObj)(vb wb:AObj)(zs:List W)(hs:∀ k ∈ ps,single k=true)(hn:ps.length≤3)(hz:zs.length=ps.length)
  (hv:B[iv]?=some vb) (hw:B[iw]?=some wb) (ov:∀ n,AObj.toOld n vb=vb) (ow:∀ n,AObj.toOld n wb=wb) (hst:∀ i k z,ps[i]?=some k→zs[i]?=some z→StepAt g iv iw vb wb k i z)
  (L:List AObj) (h1:L[1]?=some (zBox (.d (.n 8)))) (h2:L[2]?=some (zBox (.d (.n 8)))) :
  ∃ px' L',Ex E1 (.loop eaL) (eaS g iv iw ps 0 .u B L) (.exit 0,eaS g iv iw ps ps.length (.d (.v (.bool false))) B L')∧L'[1]?=some (zBox (.d (.n 8)))∧L'[2]?=some (zBox px')∧OutAt8 px' L' (W.ds zs):=by
 obtain ⟨r,hx,px',L',rfl,h5,h3,h4⟩:=Ex.inv (E:=E1) (b:=eaL) (α:=Nat × FV × List AObj) (S:=fun a=>eaS g iv iw ps a.1 .u B a.2.2) (fun a=>ps.length-a.1)
  (fun a=>a.1≤ps.length∧a.2.2[1]?=some (zBox (.d (.n 8)))∧a.2.2[2]?=some (zBox a.2.1)∧OutAt8 a.2.1 a.2.2 (W.ds (zs.take a.1)))
  (fun r=>∃ px' L',r=(.exit 0,eaS g iv iw ps ps.length (.d (.v (.bool false))) B L')∧L'[1]?=some (zBox (.d (.n 8)))∧L'[2]?=some (zBox px')∧OutAt8 px' L' (W.ds zs)) (by
   rintro ⟨i,px,L⟩ ⟨q1,q0,q2,q3⟩
   simp only at q1 q0 q2 q3
   by_cases hi:i<ps.length
   ·have hk:ps[i]?=some ps[i]:=List.getElem?_eq_getElem hi
    have hzi:zs[i]?=some (zs[i]'(by omega)):=List.getElem?_eq_getElem (by omega)
    have hlen:(W.ds (zs.take i)).length≤3:=by simp [W.ds_map]; omega
    obtain ⟨px',L',g1,g0,g2,g3⟩:=ea_round g iv iw ps i ps[i] B L vb wb px _ _ hk (hs _ (List.getElem_mem hi)) hn hv hw ov ow (hst i _ _ hk hzi) q0 q2 q3 hlen
    refine .inl ⟨(i+1,px',L'),g1,by show ps.length-(i+1)<ps.length-i; omega,by show i+1≤_; omega,g0,g2, ?_⟩
    show OutAt8 px' L' (W.ds (zs.take (i+1)))
    rw [List.take_add_one,hzi]
    have e:W.ds (zs.take i++[zs[i]'(by omega)])=W.ds (zs.take i)++[(zs[i]'(by omega)).d]:=by simp only [W.ds_map,List.map_append,List.map_cons,List.map_nil]
    show OutAt8 px' L' (W.ds (zs.take i++[zs[i]'(by omega)]))
    rw [e]; exact g3
   ·obtain rfl:i=ps.length:=by omega
    rw [← hz,List.take_length] at q3
    refine .inr ⟨_,Ex.of (n:=60) ?_, ?_,px,L,rfl,q0,q2,q3⟩
    ·unfold eaS
     generalize LK .i64 ps=l1,ps.length=n at *
     simp -implicitDefEqProofs [eaL,f43]
    ·simp) (0,.d (.n 8),L) ⟨Nat.zero_le _,h1,h2,.inl ⟨rfl,rfl⟩⟩
 exact ⟨px',L',hx,h5,h3,h4⟩
theorem run_each (g iv iw:Nat)(kk:Int)(ps:List Int)(B:List AObj)(vb wb:AObj)(zs:List W)(hs:∀ k ∈ ps,single k=true)(hn:ps.length≤3)(hz:zs.length=ps.length)
  (hv:B[iv]?=some vb) (hw:B[iw]?=some wb) (ov:∀ n,AObj.toOld n vb=vb) (ow:∀ n,AObj.toOld n wb=wb) (hst:∀ i k z,ps[i]?=some k→zs[i]?=some z→StepAt g iv iw vb wb k i z) :
  ∃ N,∀ m,CL E1 (N+m) 43 [.d (rgD kk ps),.f g [] [.r (.old iv) 0,.r (.old iw) 0]] B=some (.d (wProd zs).d,none):=by
 have n1:(LK .i64 ps).length=ps.length:=by simp [LK]
 have hA:Ex E1 f43.body.l {vars:=[.d (rgD kk ps),.f g [] [.r (.old iv) 0,.r (.old iw) 0],.u,.u,.u,.u,.u,.u,.u,.u,.u],base:=B,loc:=[],dirty:=false}
   (.norm,{vars:=[.u,.f g [] [.r (.old iv) 0,.r (.old iw) 0],.r (.loc 0) 0,.r (.loc 1) 0,.u,.u,.u,.u,.u,.u,.u],base:=B,loc:=[.box [.d (.v (.int .i64 kk)),.d (.s 1 (LK .i64 ps))],zBox (.d (.n 8))],dirty:=false}):=by
  refine Ex.of (n:=60) ?_
  unfold rgD zBox
  generalize LK .i64 ps=l1 at *
  simp -implicitDefEqProofs [f43]
 have hB:Ex E1 f43.body.r.l {vars:=[.u,.f g [] [.r (.old iv) 0,.r (.old iw) 0],.r (.loc 0) 0,.r (.loc 1) 0,.u,.u,.u,.u,.u,.u,.u],base:=B,loc:=[.box [.d (.v (.int .i64 kk)),.d (.s 1 (LK .i64 ps))],zBox (.d (.n 8))],dirty:=false}
   (.norm,{vars:=[.u,.f g [] [.r (.old iv) 0,.r (.old iw) 0],.r (.loc 0) 0,.r (.loc 1) 0,.r (.loc 2) 0,.u,.u,.u,.u,.u,.u],base:=B,loc:=[.box [.d (.v (.int .i64 kk)),.d (.s 1 (LK .i64 ps))],zBox (.d (.n 8)),zBox (.d (.n 8))],dirty:=false}):=by
  refine Ex.of (n:=60) ?_
  unfold zBox
  generalize LK .i64 ps=l1 at *
  simp -implicitDefEqProofs [f43]
 have hC:Ex E1 f43.body.r.r.l.l {vars:=[.u,.f g [] [.r (.old iv) 0,.r (.old iw) 0],.r (.loc 0) 0,.r (.loc 1) 0,.r (.loc 2) 0,.u,.u,.u,.u,.u,.u],base:=B,loc:=[.box [.d (.v (.int .i64 kk)),.d (.s 1 (LK .i64 ps))],zBox (.d (.n 8)),zBox (.d (.n 8))],dirty:=false}
   (.norm,eaS g iv iw ps 0 .u B [.box [.d (.v (.int .i64 kk)),.d (.s 1 (LK .i64 ps))],zBox (.d (.n 8)),zBox (.d (.n 8))]):=by
  refine Ex.of (n:=60) ?_
  unfold eaS zBox
  generalize LK .i64 ps=l1 at *
  simp -implicitDefEqProofs [f43,n1]
 obtain ⟨px,L,hl,h1,h2,ho⟩:=ea_loop g iv iw ps B vb wb zs hs hn hz hv hw ov ow hst [.box [.d (.v (.int .i64 kk)),.d (.s 1 (LK .i64 ps))],zBox (.d (.n 8)),zBox (.d (.n 8))] rfl rfl
 have hds:(wProd zs).d=.a [.v (.bool false),.s 1 [],.s 1 [],.v (.int .i64 0),.v (.bool false),.v (.int .u64 0),.s 6 [],.s 8 (W.ds zs)]:=rfl
 have h1l:1<L.length:=(List.getElem?_eq_some_iff.1 h1).1
 have hD:Ex E1 f43.body.r.r.r (eaS g iv iw ps ps.length (.d (.v (.bool false))) B L)
   (.ret,{vars:=[.u,.u,.u,.r (.loc 1) 0,.u,.u,.u,.u,.u,.u,.u],base:=B,loc:=L.set 1 (zBox px),dirty:=false}):=by
  refine Ex.of (n:=60) ?_
  unfold eaS zBox at *
  generalize LK .i64 ps=l1 at *
  have i1:=idx h1
  have i2:=idx h2
  rcases ho with ⟨rfl,_⟩ | ⟨j,ver,rfl,_⟩
  ·simp -implicitDefEqProofs [f43,h1,h2,i1,i2,h1l]
  ·simp -implicitDefEqProofs [f43,h1,h2,i1,i2,h1l]
 refine CL_body (o:=.ret) (st1:={vars:=[.u,.u,.u,.r (.loc 1) 0,.u,.u,.u,.u,.u,.u,.u],base:=B,loc:=L.set 1 (zBox px),dirty:=false}) rfl (k43:E1.fn _=_) rfl ?_ (by intro id h; cases h) ?_
 ·show Ex E1 (.seq f43.body.l (.seq f43.body.r.l (.seq (.seq f43.body.r.r.l.l (.block 0 (.loop eaL))) f43.body.r.r.r))) _ _
  exact hA.seq (hB.seq ((hC.seq hl.block).seq hD))
 ·rw [hds]
  unfold zBox at *
  have s1:∀ o,(L.set 1 o)[1]?=some o:=fun o=>List.getElem?_set_self h1l
  rcases ho with ⟨rfl,e⟩ | ⟨j,ver,rfl,hj⟩
  ·rw [e]
   simp -implicitDefEqProofs [f43,s1]
  ·have hj1:j≠1:=fun h=>by
    subst h
    rw [h1] at hj
    cases hj
   have sj:∀ o,(L.set 1 o)[j]?=some (.row ver 8 (W.ds zs)):=fun o=>by rw [List.getElem?_set_ne (fun h=>hj1 h.symm)]; exact hj
   have ev:AObj.view ver 8 0 (W.ds zs).length (.row ver 8 (W.ds zs))=some (W.ds zs):=by simp [AObj.view]
   generalize W.ds zs=es at *
   simp -implicitDefEqProofs [f43,s1,sj,ev]
theorem rv_true {k:Int}{ps:List Int}(h:validRg k ps=true)(n:Nat):CL E1 (n+500) 31 [.d (rgD k ps)] []=some (.d (.v (.bool true)),none):=by
 have:=(Ca.up1 (Ca.ofS (run_rvalid 0 k ps)))
 have t:=run_rvalid n k ps
 rw [h] at t
 rw [CL_eq] at t ⊢
 exact enter_le E0_le1 (exec_le E0_le1 _) t
theorem sim_plus1 (v w x y z:W)(M:Nat)(tv:∀ m,CL E1 (M+m) 41 [.d (rgD 1 []),.d v.d] []=some (.d x.d,none))(tw:∀ m,CL E1 (M+m) 41 [.d (rgD 1 []),.d w.d] []=some (.d y.d,none))
  (t:∀ m,CL E1 (M+m) 113 [.d x.d,.d y.d] []=some (.d z.d,none)):Ca E1 14 [.d (rgD 1 []),.d v.d,.d w.d] (.d z.d,none):=by
 obtain ⟨K,t42⟩:=(Ca.up1 (Ca.of cl_kind1)).any
 obtain ⟨N,hN⟩:∃ N,N=M+K+500:=⟨_,rfl⟩
 replace t42:=t42 N (by omega)
 replace tv:=fun m=>CL_mono (tv 0) (show M+0≤N+m by omega)
 replace tw:=fun m=>CL_mono (tw 0) (show M+0≤N+m by omega)
 have t31:=fun m=>CL_mono (rv_true (k:=1) (ps:=[]) rfl 0) (show 0+500≤N+m by omega)
 replace t:=fun m=>CL_mono (t 0) (show M+0≤N+m by omega)
 obtain ⟨vs,vl1,vl2,vc,vb,vu,vp,vps,ev⟩:=v.wD_of
 obtain ⟨ws,wl1,wl2,wc,wb,wu,wp,wps,ew⟩:=w.wD_of
 obtain ⟨xs,xl1,xl2,xc,xb,xu,xp,xps,ex⟩:=x.wD_of
 obtain ⟨ys,yl1,yl2,yc,yb,yu,yp,yps,ey⟩:=y.wD_of
 obtain ⟨zs,zl1,zl2,zc,zb,zu,zp,zps,ez⟩:=z.wD_of
 rw [ev] at tv ⊢
 rw [ew] at tw ⊢
 rw [ex] at tv t
 rw [ey] at tw t
 rw [ez] at t ⊢
 clear ev ew ex ey ez hN
 refine Ca.ofS (n:=N+100) ?_
 rw [CL_fn rfl (k14:E1.fn _=_) rfl]
 unfold kindV1 alg1 at *
 unfold wD rgD at *
 simp only [show LK .i64 []=[] from rfl] at t31 tv tw ⊢
 simp -implicitDefEqProofs [f14,t31,tv,tw,t42,t,FV.toOld,FV.toOldL,FV.shift,FV.shiftL,AObj.shift,AObj.toOld]
theorem sim_plus2 (v w x y z:W)(M:Nat)(tv:∀ m,CL E1 (M+m) 41 [.d (rgD 2 []),.d v.d] []=some (.d x.d,none))(tw:∀ m,CL E1 (M+m) 41 [.d (rgD 2 []),.d w.d] []=some (.d y.d,none))
  (t:∀ m,CL E1 (M+m) 125 [.d x.d,.d y.d] []=some (.d z.d,none)):Ca E1 14 [.d (rgD 2 []),.d v.d,.d w.d] (.d z.d,none):=by
 obtain ⟨K,t42⟩:=(Ca.up1 (Ca.of cl_kind2)).any
 obtain ⟨N,hN⟩:∃ N,N=M+K+500:=⟨_,rfl⟩
 replace t42:=t42 N (by omega)
 replace tv:=fun m=>CL_mono (tv 0) (show M+0≤N+m by omega)
 replace tw:=fun m=>CL_mono (tw 0) (show M+0≤N+m by omega)
 have t31:=fun m=>CL_mono (rv_true (k:=2) (ps:=[]) rfl 0) (show 0+500≤N+m by omega)
 replace t:=fun m=>CL_mono (t 0) (show M+0≤N+m by omega)
 obtain ⟨vs,vl1,vl2,vc,vb,vu,vp,vps,ev⟩:=v.wD_of
 obtain ⟨ws,wl1,wl2,wc,wb,wu,wp,wps,ew⟩:=w.wD_of
 obtain ⟨xs,xl1,xl2,xc,xb,xu,xp,xps,ex⟩:=x.wD_of
 obtain ⟨ys,yl1,yl2,yc,yb,yu,yp,yps,ey⟩:=y.wD_of
 obtain ⟨zs,zl1,zl2,zc,zb,zu,zp,zps,ez⟩:=z.wD_of
 rw [ev] at tv ⊢
 rw [ew] at tw ⊢
 rw [ex] at tv t
 rw [ey] at tw t
 rw [ez] at t ⊢
 clear ev ew ex ey ez hN
 refine Ca.ofS (n:=N+100) ?_
 rw [CL_fn rfl (k14:E1.fn _=_) rfl]
 unfold kindV2 kindB2 kindL2 at *
 unfold wD rgD at *
 simp only [show LK .i64 []=[] from rfl] at t31 tv tw ⊢
 simp -implicitDefEqProofs [f14,t31,tv,tw,t42,t,FV.toOld,FV.toOldL,FV.shift,FV.shiftL,AObj.shift,AObj.toOld]
theorem sim_plus3 (v w x y z:W)(M:Nat)(tv:∀ m,CL E1 (M+m) 41 [.d (rgD 3 []),.d v.d] []=some (.d x.d,none))(tw:∀ m,CL E1 (M+m) 41 [.d (rgD 3 []),.d w.d] []=some (.d y.d,none))
  (t:∀ B,B[6]?=some (box3 4)→∀ m,CL E1 (M+m) 137 [.d x.d,.d y.d,.r (.old 6) 0] B=some (.d z.d,none)):Ca E1 14 [.d (rgD 3 []),.d v.d,.d w.d] (.d z.d,none):=by
 obtain ⟨K,t42⟩:=(Ca.up1 (Ca.of cl_kind3)).any
 obtain ⟨N,hN⟩:∃ N,N=M+K+500:=⟨_,rfl⟩
 replace t42:=t42 N (by omega)
 replace tv:=fun m=>CL_mono (tv 0) (show M+0≤N+m by omega)
 replace tw:=fun m=>CL_mono (tw 0) (show M+0≤N+m by omega)
 have t31:=fun m=>CL_mono (rv_true (k:=3) (ps:=[]) rfl 0) (show 0+500≤N+m by omega)
 obtain ⟨vs,vl1,vl2,vc,vb,vu,vp,vps,ev⟩:=v.wD_of
 obtain ⟨ws,wl1,wl2,wc,wb,wu,wp,wps,ew⟩:=w.wD_of
 obtain ⟨xs,xl1,xl2,xc,xb,xu,xp,xps,ex⟩:=x.wD_of
 obtain ⟨ys,yl1,yl2,yc,yb,yu,yp,yps,ey⟩:=y.wD_of
 obtain ⟨zs,zl1,zl2,zc,zb,zu,zp,zps,ez⟩:=z.wD_of
 rw [ev] at tv ⊢
 rw [ew] at tw ⊢
 rw [ex] at tv t
 rw [ey] at tw t
 rw [ez] at t ⊢
 replace t:=fun m=>CL_mono (t [.box [.d (.v (.int .i64 3)),.d (.s 1 [])],.box [.d (.v (.bool xs)),.d (.s 1 xl1),.d (.s 1 xl2),.d (.v (.int .i64 xc)),.d (.v (.bool xb)),.d (.v (.int .u64 xu)),.d (.s 6 xp),.d (.s 8 xps)],
  .box [.d (.v (.bool ys)),.d (.s 1 yl1),.d (.s 1 yl2),.d (.v (.int .i64 yc)),.d (.v (.bool yb)),.d (.v (.int .u64 yu)),.d (.s 6 yp),.d (.s 8 yps)],zBox (.d (.n 8)),box3 4,box3 4,box3 4,.box [.d (.fn 111)]] rfl 0) (show M+0≤N+m by omega)
 unfold box3 zBox at t
 clear ev ew ex ey ez hN
 refine Ca.ofS (n:=N+100) ?_
 rw [CL_fn rfl (k14:E1.fn _=_) rfl]
 unfold kindV3 kindB3 kindL3 at *
 unfold wD rgD at *
 simp only [show LK .i64 []=[] from rfl] at t31 tv tw ⊢
 simp -implicitDefEqProofs [f14,t31,tv,tw,t42,t,FV.toOld,FV.toOldL,FV.shift,FV.shiftL,AObj.shift,AObj.toOld]
theorem sim_plus4 (v w x y z:W)(M:Nat)(tv:∀ m,CL E1 (M+m) 41 [.d (rgD 4 []),.d v.d] []=some (.d x.d,none))(tw:∀ m,CL E1 (M+m) 41 [.d (rgD 4 []),.d w.d] []=some (.d y.d,none))
  (t:∀ m,CL E1 (M+m) 142 [.d x.d,.d y.d] []=some (.d z.d,none)):Ca E1 14 [.d (rgD 4 []),.d v.d,.d w.d] (.d z.d,none):=by
 obtain ⟨K,t42⟩:=(Ca.up1 (Ca.of cl_kind4)).any
 obtain ⟨N,hN⟩:∃ N,N=M+K+500:=⟨_,rfl⟩
 replace t42:=t42 N (by omega)
 replace tv:=fun m=>CL_mono (tv 0) (show M+0≤N+m by omega)
 replace tw:=fun m=>CL_mono (tw 0) (show M+0≤N+m by omega)
 have t31:=fun m=>CL_mono (rv_true (k:=4) (ps:=[]) rfl 0) (show 0+500≤N+m by omega)
 replace t:=fun m=>CL_mono (t 0) (show M+0≤N+m by omega)
 obtain ⟨vs,vl1,vl2,vc,vb,vu,vp,vps,ev⟩:=v.wD_of
 obtain ⟨ws,wl1,wl2,wc,wb,wu,wp,wps,ew⟩:=w.wD_of
 obtain ⟨xs,xl1,xl2,xc,xb,xu,xp,xps,ex⟩:=x.wD_of
 obtain ⟨ys,yl1,yl2,yc,yb,yu,yp,yps,ey⟩:=y.wD_of
 obtain ⟨zs,zl1,zl2,zc,zb,zu,zp,zps,ez⟩:=z.wD_of
 rw [ev] at tv ⊢
 rw [ew] at tw ⊢
 rw [ex] at tv t
 rw [ey] at tw t
 rw [ez] at t ⊢
 clear ev ew ex ey ez hN
 refine Ca.ofS (n:=N+100) ?_
 rw [CL_fn rfl (k14:E1.fn _=_) rfl]
 unfold kindV4 kindB4 kindL4 at *
 unfold wD rgD at *
 simp only [show LK .i64 []=[] from rfl] at t31 tv tw ⊢
 simp -implicitDefEqProofs [f14,t31,tv,tw,t42,t,FV.toOld,FV.toOldL,FV.shift,FV.shiftL,AObj.shift,AObj.toOld]
theorem sim_plus5 (v w x y z:W)(M:Nat)(tv:∀ m,CL E1 (M+m) 41 [.d (rgD 5 []),.d v.d] []=some (.d x.d,none))(tw:∀ m,CL E1 (M+m) 41 [.d (rgD 5 []),.d w.d] []=some (.d y.d,none))
  (t:∀ m,CL E1 (M+m) 154 [.d x.d,.d y.d] []=some (.d z.d,none)):Ca E1 14 [.d (rgD 5 []),.d v.d,.d w.d] (.d z.d,none):=by
 obtain ⟨K,t42⟩:=(Ca.up1 (Ca.of cl_kind5)).any
 obtain ⟨N,hN⟩:∃ N,N=M+K+500:=⟨_,rfl⟩
 replace t42:=t42 N (by omega)
 replace tv:=fun m=>CL_mono (tv 0) (show M+0≤N+m by omega)
 replace tw:=fun m=>CL_mono (tw 0) (show M+0≤N+m by omega)
 have t31:=fun m=>CL_mono (rv_true (k:=5) (ps:=[]) rfl 0) (show 0+500≤N+m by omega)
 replace t:=fun m=>CL_mono (t 0) (show M+0≤N+m by omega)
 obtain ⟨vs,vl1,vl2,vc,vb,vu,vp,vps,ev⟩:=v.wD_of
 obtain ⟨ws,wl1,wl2,wc,wb,wu,wp,wps,ew⟩:=w.wD_of
 obtain ⟨xs,xl1,xl2,xc,xb,xu,xp,xps,ex⟩:=x.wD_of
 obtain ⟨ys,yl1,yl2,yc,yb,yu,yp,yps,ey⟩:=y.wD_of
 obtain ⟨zs,zl1,zl2,zc,zb,zu,zp,zps,ez⟩:=z.wD_of
 rw [ev] at tv ⊢
 rw [ew] at tw ⊢
 rw [ex] at tv t
 rw [ey] at tw t
 rw [ez] at t ⊢
 clear ev ew ex ey ez hN
 refine Ca.ofS (n:=N+100) ?_
 rw [CL_fn rfl (k14:E1.fn _=_) rfl]
 unfold kindV5 at *
 unfold wD rgD at *
 simp only [show LK .i64 []=[] from rfl] at t31 tv tw ⊢
 simp -implicitDefEqProofs [f14,t31,tv,tw,t42,t,FV.toOld,FV.toOldL,FV.shift,FV.shiftL,AObj.shift,AObj.toOld]
theorem sim_times1 (v w x y z:W)(M:Nat)(tv:∀ m,CL E1 (M+m) 41 [.d (rgD 1 []),.d v.d] []=some (.d x.d,none))(tw:∀ m,CL E1 (M+m) 41 [.d (rgD 1 []),.d w.d] []=some (.d y.d,none))
  (t:∀ m,CL E1 (M+m) 115 [.d x.d,.d y.d] []=some (.d z.d,none)):Ca E1 13 [.d (rgD 1 []),.d v.d,.d w.d] (.d z.d,none):=by
 obtain ⟨K,t42⟩:=(Ca.up1 (Ca.of cl_kind1)).any
 obtain ⟨N,hN⟩:∃ N,N=M+K+500:=⟨_,rfl⟩
 replace t42:=t42 N (by omega)
 replace tv:=fun m=>CL_mono (tv 0) (show M+0≤N+m by omega)
 replace tw:=fun m=>CL_mono (tw 0) (show M+0≤N+m by omega)
 have t31:=fun m=>CL_mono (rv_true (k:=1) (ps:=[]) rfl 0) (show 0+500≤N+m by omega)
 replace t:=fun m=>CL_mono (t 0) (show M+0≤N+m by omega)
 obtain ⟨vs,vl1,vl2,vc,vb,vu,vp,vps,ev⟩:=v.wD_of
 obtain ⟨ws,wl1,wl2,wc,wb,wu,wp,wps,ew⟩:=w.wD_of
 obtain ⟨xs,xl1,xl2,xc,xb,xu,xp,xps,ex⟩:=x.wD_of
 obtain ⟨ys,yl1,yl2,yc,yb,yu,yp,yps,ey⟩:=y.wD_of
 obtain ⟨zs,zl1,zl2,zc,zb,zu,zp,zps,ez⟩:=z.wD_of
 rw [ev] at tv ⊢
 rw [ew] at tw ⊢
 rw [ex] at tv t
 rw [ey] at tw t
 rw [ez] at t ⊢
 clear ev ew ex ey ez hN
 refine Ca.ofS (n:=N+100) ?_
 rw [CL_fn rfl (k13:E1.fn _=_) rfl]
 unfold kindV1 alg1 at *
 unfold wD rgD at *
 simp only [show LK .i64 []=[] from rfl] at t31 tv tw ⊢
 simp -implicitDefEqProofs [f13,t31,tv,tw,t42,t,FV.toOld,FV.toOldL,FV.shift,FV.shiftL,AObj.shift,AObj.toOld]
theorem sim_times2 (v w x y z:W)(M:Nat)(tv:∀ m,CL E1 (M+m) 41 [.d (rgD 2 []),.d v.d] []=some (.d x.d,none))(tw:∀ m,CL E1 (M+m) 41 [.d (rgD 2 []),.d w.d] []=some (.d y.d,none))
  (t:∀ m,CL E1 (M+m) 127 [.d x.d,.d y.d] []=some (.d z.d,none)):Ca E1 13 [.d (rgD 2 []),.d v.d,.d w.d] (.d z.d,none):=by
 obtain ⟨K,t42⟩:=(Ca.up1 (Ca.of cl_kind2)).any
 obtain ⟨N,hN⟩:∃ N,N=M+K+500:=⟨_,rfl⟩
 replace t42:=t42 N (by omega)
 replace tv:=fun m=>CL_mono (tv 0) (show M+0≤N+m by omega)
 replace tw:=fun m=>CL_mono (tw 0) (show M+0≤N+m by omega)
 have t31:=fun m=>CL_mono (rv_true (k:=2) (ps:=[]) rfl 0) (show 0+500≤N+m by omega)
 replace t:=fun m=>CL_mono (t 0) (show M+0≤N+m by omega)
 obtain ⟨vs,vl1,vl2,vc,vb,vu,vp,vps,ev⟩:=v.wD_of
 obtain ⟨ws,wl1,wl2,wc,wb,wu,wp,wps,ew⟩:=w.wD_of
 obtain ⟨xs,xl1,xl2,xc,xb,xu,xp,xps,ex⟩:=x.wD_of
 obtain ⟨ys,yl1,yl2,yc,yb,yu,yp,yps,ey⟩:=y.wD_of
 obtain ⟨zs,zl1,zl2,zc,zb,zu,zp,zps,ez⟩:=z.wD_of
 rw [ev] at tv ⊢
 rw [ew] at tw ⊢
 rw [ex] at tv t
 rw [ey] at tw t
 rw [ez] at t ⊢
 clear ev ew ex ey ez hN
 refine Ca.ofS (n:=N+100) ?_
 rw [CL_fn rfl (k13:E1.fn _=_) rfl]
 unfold kindV2 kindB2 kindL2 at *
 unfold wD rgD at *
 simp only [show LK .i64 []=[] from rfl] at t31 tv tw ⊢
 simp -implicitDefEqProofs [f13,t31,tv,tw,t42,t,FV.toOld,FV.toOldL,FV.shift,FV.shiftL,AObj.shift,AObj.toOld]
theorem sim_times3 (v w x y z:W)(M:Nat)(tv:∀ m,CL E1 (M+m) 41 [.d (rgD 3 []),.d v.d] []=some (.d x.d,none))(tw:∀ m,CL E1 (M+m) 41 [.d (rgD 3 []),.d w.d] []=some (.d y.d,none))
  (t:∀ m,CL E1 (M+m) 115 [.d x.d,.d y.d] []=some (.d z.d,none)):Ca E1 13 [.d (rgD 3 []),.d v.d,.d w.d] (.d z.d,none):=by
 obtain ⟨K,t42⟩:=(Ca.up1 (Ca.of cl_kind3)).any
 obtain ⟨N,hN⟩:∃ N,N=M+K+500:=⟨_,rfl⟩
 replace t42:=t42 N (by omega)
 replace tv:=fun m=>CL_mono (tv 0) (show M+0≤N+m by omega)
 replace tw:=fun m=>CL_mono (tw 0) (show M+0≤N+m by omega)
 have t31:=fun m=>CL_mono (rv_true (k:=3) (ps:=[]) rfl 0) (show 0+500≤N+m by omega)
 replace t:=fun m=>CL_mono (t 0) (show M+0≤N+m by omega)
 obtain ⟨vs,vl1,vl2,vc,vb,vu,vp,vps,ev⟩:=v.wD_of
 obtain ⟨ws,wl1,wl2,wc,wb,wu,wp,wps,ew⟩:=w.wD_of
 obtain ⟨xs,xl1,xl2,xc,xb,xu,xp,xps,ex⟩:=x.wD_of
 obtain ⟨ys,yl1,yl2,yc,yb,yu,yp,yps,ey⟩:=y.wD_of
 obtain ⟨zs,zl1,zl2,zc,zb,zu,zp,zps,ez⟩:=z.wD_of
 rw [ev] at tv ⊢
 rw [ew] at tw ⊢
 rw [ex] at tv t
 rw [ey] at tw t
 rw [ez] at t ⊢
 clear ev ew ex ey ez hN
 refine Ca.ofS (n:=N+100) ?_
 rw [CL_fn rfl (k13:E1.fn _=_) rfl]
 unfold kindV3 kindB3 kindL3 at *
 unfold wD rgD at *
 simp only [show LK .i64 []=[] from rfl] at t31 tv tw ⊢
 simp -implicitDefEqProofs [f13,t31,tv,tw,t42,t,FV.toOld,FV.toOldL,FV.shift,FV.shiftL,AObj.shift,AObj.toOld]
theorem sim_times4 (v w x y z:W)(M:Nat)(tv:∀ m,CL E1 (M+m) 41 [.d (rgD 4 []),.d v.d] []=some (.d x.d,none))(tw:∀ m,CL E1 (M+m) 41 [.d (rgD 4 []),.d w.d] []=some (.d y.d,none))
  (t:∀ m,CL E1 (M+m) 143 [.d x.d,.d y.d] []=some (.d z.d,none)):Ca E1 13 [.d (rgD 4 []),.d v.d,.d w.d] (.d z.d,none):=by
 obtain ⟨K,t42⟩:=(Ca.up1 (Ca.of cl_kind4)).any
 obtain ⟨N,hN⟩:∃ N,N=M+K+500:=⟨_,rfl⟩
 replace t42:=t42 N (by omega)
 replace tv:=fun m=>CL_mono (tv 0) (show M+0≤N+m by omega)
 replace tw:=fun m=>CL_mono (tw 0) (show M+0≤N+m by omega)
 have t31:=fun m=>CL_mono (rv_true (k:=4) (ps:=[]) rfl 0) (show 0+500≤N+m by omega)
 replace t:=fun m=>CL_mono (t 0) (show M+0≤N+m by omega)
 obtain ⟨vs,vl1,vl2,vc,vb,vu,vp,vps,ev⟩:=v.wD_of
 obtain ⟨ws,wl1,wl2,wc,wb,wu,wp,wps,ew⟩:=w.wD_of
 obtain ⟨xs,xl1,xl2,xc,xb,xu,xp,xps,ex⟩:=x.wD_of
 obtain ⟨ys,yl1,yl2,yc,yb,yu,yp,yps,ey⟩:=y.wD_of
 obtain ⟨zs,zl1,zl2,zc,zb,zu,zp,zps,ez⟩:=z.wD_of
 rw [ev] at tv ⊢
 rw [ew] at tw ⊢
 rw [ex] at tv t
 rw [ey] at tw t
 rw [ez] at t ⊢
 clear ev ew ex ey ez hN
 refine Ca.ofS (n:=N+100) ?_
 rw [CL_fn rfl (k13:E1.fn _=_) rfl]
 unfold kindV4 kindB4 kindL4 at *
 unfold wD rgD at *
 simp only [show LK .i64 []=[] from rfl] at t31 tv tw ⊢
 simp -implicitDefEqProofs [f13,t31,tv,tw,t42,t,FV.toOld,FV.toOldL,FV.shift,FV.shiftL,AObj.shift,AObj.toOld]
theorem sim_times5 (v w x y z:W)(M:Nat)(tv:∀ m,CL E1 (M+m) 41 [.d (rgD 5 []),.d v.d] []=some (.d x.d,none))(tw:∀ m,CL E1 (M+m) 41 [.d (rgD 5 []),.d w.d] []=some (.d y.d,none))
  (t:∀ m,CL E1 (M+m) 156 [.d x.d,.d y.d] []=some (.d z.d,none)):Ca E1 13 [.d (rgD 5 []),.d v.d,.d w.d] (.d z.d,none):=by
 obtain ⟨K,t42⟩:=(Ca.up1 (Ca.of cl_kind5)).any
 obtain ⟨N,hN⟩:∃ N,N=M+K+500:=⟨_,rfl⟩
 replace t42:=t42 N (by omega)
 replace tv:=fun m=>CL_mono (tv 0) (show M+0≤N+m by omega)
 replace tw:=fun m=>CL_mono (tw 0) (show M+0≤N+m by omega)
 have t31:=fun m=>CL_mono (rv_true (k:=5) (ps:=[]) rfl 0) (show 0+500≤N+m by omega)
 replace t:=fun m=>CL_mono (t 0) (show M+0≤N+m by omega)
 obtain ⟨vs,vl1,vl2,vc,vb,vu,vp,vps,ev⟩:=v.wD_of
 obtain ⟨ws,wl1,wl2,wc,wb,wu,wp,wps,ew⟩:=w.wD_of
 obtain ⟨xs,xl1,xl2,xc,xb,xu,xp,xps,ex⟩:=x.wD_of
 obtain ⟨ys,yl1,yl2,yc,yb,yu,yp,yps,ey⟩:=y.wD_of
 obtain ⟨zs,zl1,zl2,zc,zb,zu,zp,zps,ez⟩:=z.wD_of
 rw [ev] at tv ⊢
 rw [ew] at tw ⊢
 rw [ex] at tv t
 rw [ey] at tw t
 rw [ez] at t ⊢
 clear ev ew ex ey ez hN
 refine Ca.ofS (n:=N+100) ?_
 rw [CL_fn rfl (k13:E1.fn _=_) rfl]
 unfold kindV5 at *
 unfold wD rgD at *
 simp only [show LK .i64 []=[] from rfl] at t31 tv tw ⊢
 simp -implicitDefEqProofs [f13,t31,tv,tw,t42,t,FV.toOld,FV.toOldL,FV.shift,FV.shiftL,AObj.shift,AObj.toOld]
section
section parts
variable (H:List AObj) (iv iw i:Nat) (v0 v1 v2 v3 v4 v5 v6 w0 w1 w2 w3 w4 w5 w6:FV) (vs ws:List D) (x y z:W)
theorem run44a (hv:H[iv]?=some (.box [v0,v1,v2,v3,v4,v5,v6,.d (.s 8 vs)]))(hw:H[iw]?=some (.box [w0,w1,w2,w3,w4,w5,w6,.d (.s 8 ws)]))(hx:vs[i]?=some x.d)(hy:ws[i]?=some y.d)
  (c0 c1 c2 c3 c5 c6 c7 c8 a b:Nat) (g M:Nat) (t:∀ m,CL E1 (M+m) g [.d x.d,.d y.d] []=some (.d z.d,none)) (m:Nat) :
  CL E1 (M+100+m) 44 [.a [.d (.fn c0),.d (.fn c1),.d (.fn c2),.d (.fn c3),.d (.fn g),.f c5 [] [.r (.old a) 0],.d (.fn c6),.d (.fn c7),.f c8 [] [.r (.old b) 0]],.d (.v (.int .i64 i)),.r (.old iv) 0,.r (.old iw) 0] H=some (.d z.d,none):=by
 have hvl:iv<H.length:=(List.getElem?_eq_some_iff.1 hv).1
 have hwl:iw<H.length:=(List.getElem?_eq_some_iff.1 hw).1
 have gv:∀ L,(H++L)[iv]?=some (.box [v0,v1,v2,v3,v4,v5,v6,.d (.s 8 vs)]):=fun L=>by rw [List.getElem?_append_left hvl]; exact hv
 have gw:∀ L,(H++L)[iw]?=some (.box [w0,w1,w2,w3,w4,w5,w6,.d (.s 8 ws)]):=fun L=>by rw [List.getElem?_append_left hwl]; exact hw
 have i1:i<vs.length:=(List.getElem?_eq_some_iff.1 hx).1
 have i2:i<ws.length:=(List.getElem?_eq_some_iff.1 hy).1
 have hi0:(0:Int)≤(i:Int):=by omega
 obtain ⟨xs,xl1,xl2,xc,xb,xu,xp,xps,ex⟩:=x.wD_of
 obtain ⟨ys,yl1,yl2,yc,yb,yu,yp,yps,ey⟩:=y.wD_of
 obtain ⟨zs,zl1,zl2,zc,zb,zu,zp,zps,ez⟩:=z.wD_of
 rw [ex] at hx t
 rw [ey] at hy t
 rw [ez] at t ⊢
 replace t:=fun k=>t (m+k)
 simp only [← Nat.add_assoc] at t
 rw [show M+100+m=M+m+100 by omega]
 generalize M+m=n at *
 rw [CL_fn rfl (k44:E1.fn _=_) rfl]
 unfold wD at *
 have j1:=idx hx
 have j2:=idx hy
 simp -implicitDefEqProofs [f44,t,gv,gw,i1,i2,hi0,j1,j2,hx,hy]
theorem run44d (hv:H[iv]?=some (.box [v0,v1,v2,v3,v4,v5,v6,.d (.s 8 vs)]))(hw:H[iw]?=some (.box [w0,w1,w2,w3,w4,w5,w6,.d (.s 8 ws)]))(hx:vs[i]?=some x.d)(hy:ws[i]?=some y.d)
  (c0 c1 c2 c3 c5 c6 c7 c8:Nat) (g M:Nat) (t:∀ m,CL E1 (M+m) g [.d x.d,.d y.d] []=some (.d z.d,none)) (m:Nat) :
  CL E1 (M+100+m) 44 [.d (.a [.fn c0,.fn c1,.fn c2,.fn c3,.fn g,.fn c5,.fn c6,.fn c7,.fn c8]),.d (.v (.int .i64 i)),.r (.old iv) 0,.r (.old iw) 0] H=some (.d z.d,none):=by
 have hvl:iv<H.length:=(List.getElem?_eq_some_iff.1 hv).1
 have hwl:iw<H.length:=(List.getElem?_eq_some_iff.1 hw).1
 have gv:∀ L,(H++L)[iv]?=some (.box [v0,v1,v2,v3,v4,v5,v6,.d (.s 8 vs)]):=fun L=>by rw [List.getElem?_append_left hvl]; exact hv
 have gw:∀ L,(H++L)[iw]?=some (.box [w0,w1,w2,w3,w4,w5,w6,.d (.s 8 ws)]):=fun L=>by rw [List.getElem?_append_left hwl]; exact hw
 have i1:i<vs.length:=(List.getElem?_eq_some_iff.1 hx).1
 have i2:i<ws.length:=(List.getElem?_eq_some_iff.1 hy).1
 have hi0:(0:Int)≤(i:Int):=by omega
 obtain ⟨xs,xl1,xl2,xc,xb,xu,xp,xps,ex⟩:=x.wD_of
 obtain ⟨ys,yl1,yl2,yc,yb,yu,yp,yps,ey⟩:=y.wD_of
 obtain ⟨zs,zl1,zl2,zc,zb,zu,zp,zps,ez⟩:=z.wD_of
 rw [ex] at hx t
 rw [ey] at hy t
 rw [ez] at t ⊢
 replace t:=fun k=>t (m+k)
 simp only [← Nat.add_assoc] at t
 rw [show M+100+m=M+m+100 by omega]
 generalize M+m=n at *
 rw [CL_fn rfl (k44:E1.fn _=_) rfl]
 unfold wD at *
 have j1:=idx hx
 have j2:=idx hy
 simp -implicitDefEqProofs [f44,t,gv,gw,i1,i2,hi0,j1,j2,hx,hy]
theorem run44c (hv:H[iv]?=some (.box [v0,v1,v2,v3,v4,v5,v6,.d (.s 8 vs)]))(hw:H[iw]?=some (.box [w0,w1,w2,w3,w4,w5,w6,.d (.s 8 ws)]))(hx:vs[i]?=some x.d)(hy:ws[i]?=some y.d)
  (c0 c1 c2 c5 c6 c7 c8 a b j:Nat) (g M:Nat) (t:∀ m,CL E1 (M+m) g [.d x.d,.d y.d] []=some (.d z.d,none)) (m:Nat) :
  CL E1 (M+100+m) 44 [.a [.d (.fn c0),.d (.fn c1),.d (.fn c2),.f 137 [] [.r (.old j) 0],.d (.fn g),.f c5 [] [.r (.old a) 0],.d (.fn c6),.d (.fn c7),.f c8 [] [.r (.old b) 0]],.d (.v (.int .i64 i)),.r (.old iv) 0,.r (.old iw) 0] H=some (.d z.d,none):=by
 have hvl:iv<H.length:=(List.getElem?_eq_some_iff.1 hv).1
 have hwl:iw<H.length:=(List.getElem?_eq_some_iff.1 hw).1
 have gv:∀ L,(H++L)[iv]?=some (.box [v0,v1,v2,v3,v4,v5,v6,.d (.s 8 vs)]):=fun L=>by rw [List.getElem?_append_left hvl]; exact hv
 have gw:∀ L,(H++L)[iw]?=some (.box [w0,w1,w2,w3,w4,w5,w6,.d (.s 8 ws)]):=fun L=>by rw [List.getElem?_append_left hwl]; exact hw
 have i1:i<vs.length:=(List.getElem?_eq_some_iff.1 hx).1
 have i2:i<ws.length:=(List.getElem?_eq_some_iff.1 hy).1
 have hi0:(0:Int)≤(i:Int):=by omega
 obtain ⟨xs,xl1,xl2,xc,xb,xu,xp,xps,ex⟩:=x.wD_of
 obtain ⟨ys,yl1,yl2,yc,yb,yu,yp,yps,ey⟩:=y.wD_of
 obtain ⟨zs,zl1,zl2,zc,zb,zu,zp,zps,ez⟩:=z.wD_of
 rw [ex] at hx t
 rw [ey] at hy t
 rw [ez] at t ⊢
 replace t:=fun k=>t (m+k)
 simp only [← Nat.add_assoc] at t
 rw [show M+100+m=M+m+100 by omega]
 generalize M+m=n at *
 rw [CL_fn rfl (k44:E1.fn _=_) rfl]
 unfold wD at *
 have j1:=idx hx
 have j2:=idx hy
 simp -implicitDefEqProofs [f44,t,gv,gw,i1,i2,hi0,j1,j2,hx,hy]
end parts
end
section
def plusN (k:Int):Nat:=if k=1 then 113 else if k=2 then 125 else if k=4 then 142 else 154
def timesN (k:Int):Nat:=if k=1 then 115 else if k=2 then 127 else if k=3 then 115 else if k=4 then 143 else 156
def PlusC (k:Int)(x y z:W):Prop :=
 ∃ N,(k=3→∀ (B:List AObj) (j o:Nat),B[j]?=some (box3 o)→∀ m,CL E1 (N+m) 137 [.d x.d,.d y.d,.r (.old j) 0] B=some (.d z.d,none)) ∧
  (k≠3→∀ m,CL E1 (N+m) (plusN k) [.d x.d,.d y.d] []=some (.d z.d,none))
def TimesC (k:Int)(x y z:W):Prop:=Ca E1 (timesN k) [.d x.d,.d y.d] (.d z.d,none)
section steps
variable {iv iw i:Nat} {v0 v1 v2 v3 v4 v5 v6 w0 w1 w2 w3 w4 w5 w6:FV} {vs ws:List D} {x y z:W} {k:Int}
theorem step_plus (hk:single k=true)(h:PlusC k x y z)(hx:vs[i]?=some x.d)(hy:ws[i]?=some y.d):StepAt 45 iv iw (.box [v0,v1,v2,v3,v4,v5,v6,.d (.s 8 vs)]) (.box [w0,w1,w2,w3,w4,w5,w6,.d (.s 8 ws)]) k i z:=by
 obtain ⟨N,t3,t⟩:=h
 refine ⟨N+100,fun H o hv hw h3 m => ?_⟩
 rcases single_five hk with rfl | rfl | rfl | rfl | rfl
 ·exact run45d H iv iw i v0 v1 v2 v3 v4 v5 v6 w0 w1 w2 w3 w4 w5 w6 vs ws x y z hv hw hx hy 108 110 111 115 117 118 119 121 113 N (t (by decide)) m
 ·exact run45a H iv iw i v0 v1 v2 v3 v4 v5 v6 w0 w1 w2 w3 w4 w5 w6 vs ws x y z hv hw hx hy 122 123 124 127 195 126 128 131 (o+3) (o+2) 125 N (t (by decide)) m
 ·exact run45c H iv iw i v0 v1 v2 v3 v4 v5 v6 w0 w1 w2 w3 w4 w5 w6 vs ws x y z hv hw hx hy 133 110 111 115 195 136 119 138 (o+3) (o+2) (o+2) N (box3 o) (h3 rfl) (box3_old o) (fun B hB m=>t3 rfl B (o+2) o hB m) m
 ·exact run45a H iv iw i v0 v1 v2 v3 v4 v5 v6 w0 w1 w2 w3 w4 w5 w6 vs ws x y z hv hw hx hy 139 140 141 143 195 118 144 147 (o+3) (o+2) 142 N (t (by decide)) m
 ·exact run45d H iv iw i v0 v1 v2 v3 v4 v5 v6 w0 w1 w2 w3 w4 w5 w6 vs ws x y z hv hw hx hy 149 151 152 156 158 118 160 163 154 N (t (by decide)) m
theorem step_times (hk:single k=true)(h:TimesC k x y z)(hx:vs[i]?=some x.d)(hy:ws[i]?=some y.d):StepAt 44 iv iw (.box [v0,v1,v2,v3,v4,v5,v6,.d (.s 8 vs)]) (.box [w0,w1,w2,w3,w4,w5,w6,.d (.s 8 ws)]) k i z:=by
 obtain ⟨N,t⟩:=Ca.get h
 refine ⟨N+100,fun H o hv hw h3 m => ?_⟩
 rcases single_five hk with rfl | rfl | rfl | rfl | rfl
 ·exact run44d H iv iw i v0 v1 v2 v3 v4 v5 v6 w0 w1 w2 w3 w4 w5 w6 vs ws x y z hv hw hx hy 108 110 111 113 117 118 119 121 115 N t m
 ·exact run44a H iv iw i v0 v1 v2 v3 v4 v5 v6 w0 w1 w2 w3 w4 w5 w6 vs ws x y z hv hw hx hy 122 123 124 125 195 126 128 131 (o+3) (o+2) 127 N t m
 ·exact run44c H iv iw i v0 v1 v2 v3 v4 v5 v6 w0 w1 w2 w3 w4 w5 w6 vs ws x y z hv hw hx hy 133 110 111 195 136 119 138 (o+3) (o+2) (o+2) 115 N t m
 ·exact run44a H iv iw i v0 v1 v2 v3 v4 v5 v6 w0 w1 w2 w3 w4 w5 w6 vs ws x y z hv hw hx hy 139 140 141 142 195 118 144 147 (o+3) (o+2) 143 N t m
 ·exact run44d H iv iw i v0 v1 v2 v3 v4 v5 v6 w0 w1 w2 w3 w4 w5 w6 vs ws x y z hv hw hx hy 149 151 152 154 158 118 160 163 156 N t m
end steps
theorem ca_PlusS {k:Int}(hk:single k=true)(v w x y z:W)(hv:Ca E1 41 [.d (rgD k []),.d v.d] (.d x.d,none))(hw:Ca E1 41 [.d (rgD k []),.d w.d] (.d y.d,none))(h:PlusC k x y z):Ca E1 14 [.d (rgD k []),.d v.d,.d w.d] (.d z.d,none):=by
 obtain ⟨N1,t1⟩:=hv.any
 obtain ⟨N2,t2⟩:=hw.any
 obtain ⟨N3,t3,t⟩:=h
 obtain ⟨M,hM⟩:∃ M,M=N1+N2+N3:=⟨_,rfl⟩
 replace t1:=t1 M (by omega)
 replace t2:=t2 M (by omega)
 replace t:=fun h m=>CL_mono (t h 0) (show N3+0≤M+m by omega)
 replace t3:=fun h B j o hB m=>CL_mono (t3 h B j o hB 0) (show N3+0≤M+m by omega)
 rcases single_five hk with rfl | rfl | rfl | rfl | rfl
 ·exact sim_plus1 v w x y z M t1 t2 (t (by decide))
 ·exact sim_plus2 v w x y z M t1 t2 (t (by decide))
 ·exact sim_plus3 v w x y z M t1 t2 (fun B hB m=>t3 rfl B 6 4 hB m)
 ·exact sim_plus4 v w x y z M t1 t2 (t (by decide))
 ·exact sim_plus5 v w x y z M t1 t2 (t (by decide))
theorem ca_TimesS {k:Int}(hk:single k=true)(v w x y z:W)(hv:Ca E1 41 [.d (rgD k []),.d v.d] (.d x.d,none))(hw:Ca E1 41 [.d (rgD k []),.d w.d] (.d y.d,none))(h:TimesC k x y z):Ca E1 13 [.d (rgD k []),.d v.d,.d w.d] (.d z.d,none):=by
 obtain ⟨N1,t1⟩:=hv.any
 obtain ⟨N2,t2⟩:=hw.any
 obtain ⟨N3,t⟩:=Ca.any h
 obtain ⟨M,hM⟩:∃ M,M=N1+N2+N3:=⟨_,rfl⟩
 replace t1:=t1 M (by omega)
 replace t2:=t2 M (by omega)
 replace t:=t M (by omega)
 rcases single_five hk with rfl | rfl | rfl | rfl | rfl
 ·exact sim_times1 v w x y z M t1 t2 t
 ·exact sim_times2 v w x y z M t1 t2 t
 ·exact sim_times3 v w x y z M t1 t2 t
 ·exact sim_times4 v w x y z M t1 t2 t
 ·exact sim_times5 v w x y z M t1 t2 t
def pBox (xs:List W):AObj:=.box [.d (.v (.bool false)),.d (.s 1 []),.d (.s 1 []),.d (.v (.int .i64 0)),.d (.v (.bool false)),.d (.v (.int .u64 0)),.d (.s 6 []),.d (.s 8 (W.ds xs))]
theorem pBox_old (xs:List W)(n:Nat):AObj.toOld n (pBox xs)=pBox xs:=by simp [pBox,AObj.toOld,FV.toOldL,FV.toOld]
theorem rg6 {ps:List Int}(h:validRg 6 ps=true):ps.length≤3∧2≤ps.length∧∀ k ∈ ps,single k=true:=by
 unfold validRg at h
 rw [if_neg (by simp)] at h
 simp only [Bool.and_eq_true,decide_eq_true_eq,List.all_eq_true] at h
 exact ⟨h.1.2,h.1.1,h.2⟩
theorem ca_PlusP {ps:List Int}(hv:validRg 6 ps=true)(v w:W)(xs ys zs:List W)(lx:xs.length=ps.length)(ly:ys.length=ps.length)(lz:zs.length=ps.length)
  (h1:Ca E1 41 [.d (rgD 6 ps),.d v.d] (.d (wProd xs).d,none)) (h2:Ca E1 41 [.d (rgD 6 ps),.d w.d] (.d (wProd ys).d,none))
  (h:∀ (i:Nat) (k:Int) (x y z:W),ps[i]?=some k→xs[i]?=some x→ys[i]?=some y→zs[i]?=some z→PlusC k x y z):Ca E1 14 [.d (rgD 6 ps),.d v.d,.d w.d] (.d (wProd zs).d,none):=by
 obtain ⟨a1,a2,a3⟩:=rg6 hv
 obtain ⟨N3,t43⟩:=run_each 45 1 2 6 ps [.box [.d (.v (.int .i64 6)),.d (.s 1 (LK .i64 ps))],pBox xs,pBox ys,zBox (.d (.n 8))] (pBox xs) (pBox ys) zs a3 a1 lz rfl rfl (pBox_old xs) (pBox_old ys) (fun i k z hk hz=>by
  have hi:i<ps.length:=(List.getElem?_eq_some_iff.1 hk).1
  have hx:xs[i]?=some (xs[i]'(by omega)):=List.getElem?_eq_getElem (show i<xs.length by omega)
  have hy:ys[i]?=some (ys[i]'(by omega)):=List.getElem?_eq_getElem (show i<ys.length by omega)
  exact step_plus (a3 k (List.mem_of_getElem? hk)) (h i k _ _ z hk hx hy hz) (by rw [W.ds_map,List.getElem?_map,hx]; rfl) (by rw [W.ds_map,List.getElem?_map,hy]; rfl))
 obtain ⟨N1,t1⟩:=h1.any
 obtain ⟨N2,t2⟩:=h2.any
 obtain ⟨N,hN⟩:∃ N,N=N1+N2+N3+500:=⟨_,rfl⟩
 replace t1:=t1 N (by omega)
 replace t2:=t2 N (by omega)
 replace t43:=fun m=>CL_mono (t43 0) (show N3+0≤N+m by omega)
 have t31:=fun m=>CL_mono (rv_true hv 0) (show 0+500≤N+m by omega)
 obtain ⟨vs,vl1,vl2,vc,vb,vu,vp,vps,ev⟩:=v.wD_of
 obtain ⟨ws,wl1,wl2,wc,wb,wu,wp,wps,ew⟩:=w.wD_of
 have ex:∀ zs:List W,(wProd zs).d=.a [.v (.bool false),.s 1 [],.s 1 [],.v (.int .i64 0),.v (.bool false),.v (.int .u64 0),.s 6 [],.s 8 (W.ds zs)]:=fun _=>rfl
 rw [ev,ex] at t1
 rw [ew,ex] at t2
 rw [ex] at t43
 rw [ev,ew,ex]
 unfold wD rgD pBox zBox at *
 clear ev ew ex hN h h1 h2 a1 a2 a3 lx ly lz hv
 refine Ca.ofS (n:=N+100) ?_
 rw [CL_fn rfl (k14:E1.fn _=_) rfl]
 generalize W.ds xs=x1,W.ds ys=x2,W.ds zs=x3,LK .i64 ps=l1 at *
 simp -implicitDefEqProofs [f14,t31,t1,t2,t43,FV.toOld,FV.toOldL,AObj.toOld]
theorem ca_TimesP {ps:List Int}(hv:validRg 6 ps=true)(v w:W)(xs ys zs:List W)(lx:xs.length=ps.length)(ly:ys.length=ps.length)(lz:zs.length=ps.length)
  (h1:Ca E1 41 [.d (rgD 6 ps),.d v.d] (.d (wProd xs).d,none)) (h2:Ca E1 41 [.d (rgD 6 ps),.d w.d] (.d (wProd ys).d,none))
  (h:∀ (i:Nat) (k:Int) (x y z:W),ps[i]?=some k→xs[i]?=some x→ys[i]?=some y→zs[i]?=some z→TimesC k x y z):Ca E1 13 [.d (rgD 6 ps),.d v.d,.d w.d] (.d (wProd zs).d,none):=by
 obtain ⟨a1,a2,a3⟩:=rg6 hv
 obtain ⟨N3,t43⟩:=run_each 44 1 2 6 ps [.box [.d (.v (.int .i64 6)),.d (.s 1 (LK .i64 ps))],pBox xs,pBox ys,zBox (.d (.n 8))] (pBox xs) (pBox ys) zs a3 a1 lz rfl rfl (pBox_old xs) (pBox_old ys) (fun i k z hk hz=>by
  have hi:i<ps.length:=(List.getElem?_eq_some_iff.1 hk).1
  have hx:xs[i]?=some (xs[i]'(by omega)):=List.getElem?_eq_getElem (show i<xs.length by omega)
  have hy:ys[i]?=some (ys[i]'(by omega)):=List.getElem?_eq_getElem (show i<ys.length by omega)
  exact step_times (a3 k (List.mem_of_getElem? hk)) (h i k _ _ z hk hx hy hz) (by rw [W.ds_map,List.getElem?_map,hx]; rfl) (by rw [W.ds_map,List.getElem?_map,hy]; rfl))
 obtain ⟨N1,t1⟩:=h1.any
 obtain ⟨N2,t2⟩:=h2.any
 obtain ⟨N,hN⟩:∃ N,N=N1+N2+N3+500:=⟨_,rfl⟩
 replace t1:=t1 N (by omega)
 replace t2:=t2 N (by omega)
 replace t43:=fun m=>CL_mono (t43 0) (show N3+0≤N+m by omega)
 have t31:=fun m=>CL_mono (rv_true hv 0) (show 0+500≤N+m by omega)
 obtain ⟨vs,vl1,vl2,vc,vb,vu,vp,vps,ev⟩:=v.wD_of
 obtain ⟨ws,wl1,wl2,wc,wb,wu,wp,wps,ew⟩:=w.wD_of
 have ex:∀ zs:List W,(wProd zs).d=.a [.v (.bool false),.s 1 [],.s 1 [],.v (.int .i64 0),.v (.bool false),.v (.int .u64 0),.s 6 [],.s 8 (W.ds zs)]:=fun _=>rfl
 rw [ev,ex] at t1
 rw [ew,ex] at t2
 rw [ex] at t43
 rw [ev,ew,ex]
 unfold wD rgD pBox zBox at *
 clear ev ew ex hN h h1 h2 a1 a2 a3 lx ly lz hv
 refine Ca.ofS (n:=N+100) ?_
 rw [CL_fn rfl (k13:E1.fn _=_) rfl]
 generalize W.ds xs=x1,W.ds ys=x2,W.ds zs=x3,LK .i64 ps=l1 at *
 simp -implicitDefEqProofs [f13,t31,t1,t2,t43,FV.toOld,FV.toOldL,AObj.toOld]
end
end Fi.S
namespace Fi.S
open Go Fi
set_option maxHeartbeats 8000000
def zeroK (k:Int):Sv:=if k=2 then .c true 0 else if k=4 then .s 0 else if k=5 then .p [] else .q 0
theorem zeroK_of {k:Int}(hk:single k=true)(S M:Nat)(hS:1≤S):(zeroK k).of k S M:=by
 rcases single_five hk with rfl | rfl | rfl | rfl | rfl
 ·exact ⟨.inl rfl,Nat.le_trans qz_zero hS⟩
 ·exact ⟨rfl,by decide,by decide,fun _=>rfl⟩
 ·exact ⟨.inr ⟨rfl,by decide,by decide⟩,Nat.le_trans qz_zero hS⟩
 ·exact ⟨rfl,by decide,by decide⟩
 ·exact ⟨rfl,PV.nil S,Nat.zero_le _⟩
theorem plusC_of {k:Int}(hk:single k=true){S M:Nat}(hS:S≤1000)(hM:(M+M)*(S+1)≤50000){x y:Sv}(hx:x.of k S M)(hy:y.of k S M):PlusC k x.w y.w (plusK k x y).w:=by
 rcases single_five hk with rfl | rfl | rfl | rfl | rfl
 ·cases x with
  | q x=>cases y with
   | q y =>
    obtain ⟨N,t⟩:=(ca_plus1 x y (by have:=hx.2; omega) (by have:=hy.2; omega)).get
    exact ⟨N,fun h=>absurd h (by decide),fun _=>t⟩
   | c j m=>exact absurd hy.1 (by decide)
   | s v=>exact absurd hy.1 (by decide)
   | p b=>exact absurd hy.1 (by decide)
  | c i n=>exact absurd hx.1 (by decide)
  | s u=>exact absurd hx.1 (by decide)
  | p a=>exact absurd hx.1 (by decide)
 ·cases x with
  | c i n=>cases y with
   | c j m =>
    obtain ⟨N,t⟩:=(ca_plus2 i j n m).get
    exact ⟨N,fun h=>absurd h (by decide),fun _=>t⟩
   | q y=>rcases hy.1 with h | h; exact absurd h (by decide); exact absurd h.1 (by decide)
   | s v=>exact absurd hy.1 (by decide)
   | p b=>exact absurd hy.1 (by decide)
  | q x=>rcases hx.1 with h | h; exact absurd h (by decide); exact absurd h.1 (by decide)
  | s u=>exact absurd hx.1 (by decide)
  | p a=>exact absurd hx.1 (by decide)
 ·cases x with
  | q x=>cases y with
   | q y =>
    obtain ⟨N,t⟩:=run_plus3 x y (by have:=hx.2; omega) (by have:=hy.2; omega)
    exact ⟨N,fun _ B j o hB m=>t B j _ _ _ _ _ _ _ _ hB m,fun h=>absurd rfl h⟩
   | c j m=>exact absurd hy.1 (by decide)
   | s v=>exact absurd hy.1 (by decide)
   | p b=>exact absurd hy.1 (by decide)
  | c i n=>exact absurd hx.1 (by decide)
  | s u=>exact absurd hx.1 (by decide)
  | p a=>exact absurd hx.1 (by decide)
 ·cases x with
  | s u=>cases y with
   | s v =>
    obtain ⟨N,t⟩:=(ca_plus4 u v).get
    exact ⟨N,fun h=>absurd h (by decide),fun _=>t⟩
   | q y=>rcases hy.1 with h | h; exact absurd h (by decide); exact absurd h.1 (by decide)
   | c j m=>exact absurd hy.1 (by decide)
   | p b=>exact absurd hy.1 (by decide)
  | q x=>rcases hx.1 with h | h; exact absurd h (by decide); exact absurd h.1 (by decide)
  | c i n=>exact absurd hx.1 (by decide)
  | p a=>exact absurd hx.1 (by decide)
 ·cases x with
  | p a=>cases y with
   | p b =>
    have h1:(a++b).length*(S+1)≤50000:=by
     have:=hx.2.2
     have:=hy.2.2
     refine Nat.le_trans (Nat.mul_le_mul_right _ ?_) hM
     rw [List.length_append]; omega
    obtain ⟨N,t⟩:=(ca_plus5 hx.2.1 hy.2.1 hS h1).get
    exact ⟨N,fun h=>absurd h (by decide),fun _=>t⟩
   | q y=>rcases hy.1 with h | h; exact absurd h (by decide); exact absurd h.1 (by decide)
   | c j m=>exact absurd hy.1 (by decide)
   | s v=>exact absurd hy.1 (by decide)
  | q x=>rcases hx.1 with h | h; exact absurd h (by decide); exact absurd h.1 (by decide)
  | c i n=>exact absurd hx.1 (by decide)
  | s u=>exact absurd hx.1 (by decide)
theorem timesC_of {k:Int}(hk:single k=true){S M:Nat}(hS:S≤1000)(hM:M*(M*(2*S+1))≤50000){x y:Sv}(hx:x.of k S M)(hy:y.of k S M):TimesC k x.w y.w (timesK x y).w:=by
 unfold TimesC
 rcases single_five hk with rfl | rfl | rfl | rfl | rfl
 ·cases x with
  | q x=>cases y with
   | q y=>exact ca_times1 x y (by have:=hx.2; omega) (by have:=hy.2; omega)
   | c j m=>exact absurd hy.1 (by decide)
   | s v=>exact absurd hy.1 (by decide)
   | p b=>exact absurd hy.1 (by decide)
  | c i n=>exact absurd hx.1 (by decide)
  | s u=>exact absurd hx.1 (by decide)
  | p a=>exact absurd hx.1 (by decide)
 ·cases x with
  | c i n=>cases y with
   | c j m=>exact ca_times2 i j n m ⟨hx.2.1,hx.2.2.1⟩ ⟨hy.2.1,hy.2.2.1⟩
   | q y=>rcases hy.1 with h | h; exact absurd h (by decide); exact absurd h.1 (by decide)
   | s v=>exact absurd hy.1 (by decide)
   | p b=>exact absurd hy.1 (by decide)
  | q x=>rcases hx.1 with h | h; exact absurd h (by decide); exact absurd h.1 (by decide)
  | s u=>exact absurd hx.1 (by decide)
  | p a=>exact absurd hx.1 (by decide)
 ·cases x with
  | q x=>cases y with
   | q y=>exact ca_times1 x y (by have:=hx.2; omega) (by have:=hy.2; omega)
   | c j m=>exact absurd hy.1 (by decide)
   | s v=>exact absurd hy.1 (by decide)
   | p b=>exact absurd hy.1 (by decide)
  | c i n=>exact absurd hx.1 (by decide)
  | s u=>exact absurd hx.1 (by decide)
  | p a=>exact absurd hx.1 (by decide)
 ·cases x with
  | s u=>cases y with
   | s v=>exact ca_times4 u v
   | q y=>rcases hy.1 with h | h; exact absurd h (by decide); exact absurd h.1 (by decide)
   | c j m=>exact absurd hy.1 (by decide)
   | p b=>exact absurd hy.1 (by decide)
  | q x=>rcases hx.1 with h | h; exact absurd h (by decide); exact absurd h.1 (by decide)
  | c i n=>exact absurd hx.1 (by decide)
  | p a=>exact absurd hx.1 (by decide)
 ·cases x with
  | p a=>cases y with
   | p b =>
    have h1:a.length*(b.length*(2*S+1))≤50000:=by
     refine Nat.le_trans ?_ hM
     exact Nat.mul_le_mul hx.2.2 (Nat.mul_le_mul_right _ hy.2.2)
    exact ca_times5 hx.2.1 hy.2.1 hS h1
   | q y=>rcases hy.1 with h | h; exact absurd h (by decide); exact absurd h.1 (by decide)
   | c j m=>exact absurd hy.1 (by decide)
   | s v=>exact absurd hy.1 (by decide)
  | q x=>rcases hx.1 with h | h; exact absurd h (by decide); exact absurd h.1 (by decide)
  | c i n=>exact absurd hx.1 (by decide)
  | s u=>exact absurd hx.1 (by decide)
inductive W.Sm (S:Nat):W→Prop
 | mk {s:Bool} {a b:List Nat} {c:Int} {i:Bool} {u:Int} {p:List Mo} {ps:List W} (ha:Lim a) (hb:Lim b) (la:a.length≤S) (lb:b.length≤S) (hp:∀ m ∈ p,Lim m.a∧Lim m.b∧m.a.length≤S∧m.b.length≤S) (hu:u64r u)
   (h:∀ w ∈ ps,W.Sm S w):W.Sm S (.mk s a b c i u p ps)
def W.mons:W→List Mo
 | .mk _ _ _ _ _ _ p _=>p
theorem q0_nil:q0 false [] []=true:=rfl
theorem chk_of {k:Int}{S M:Nat}{x:Sv}(h:x.of k S M):chkB k x.w=true:=by
 cases x with
 | q x =>
  obtain ⟨h1,h2⟩:=h
  have hv:=validR_qD x
  rcases h1 with rfl | ⟨rfl,h0,h1⟩
  ·simp [chkB,Sv.w,hv]
  ·have e:ratOf (qs x) (qn x) (qd x)=x:=ratOf_qD x
   have h3:(0:Int)≤x.num.sign:=Int.sign_nonneg_iff.2 (Rat.num_nonneg.2 h0)
   have h4:¬ (1:Rat)<x:=by grind
   simp [chkB,Sv.w,hv,e,h3,h4]
 | c i n =>
  obtain ⟨rfl,h1,h2,h3⟩:=h
  cases i with
  | false=>simp [chkB,Sv.w,h1,h2,q0_nil]
  | true =>
   have:=h3 rfl
   subst this
   simp [chkB,Sv.w,q0_nil]
 | s u =>
  obtain ⟨rfl,_⟩:=h
  simp [chkB,Sv.w,q0_nil]
 | p l =>
  obtain ⟨rfl,h1,_⟩:=h
  have:=pv_none h1 (q:=none) (fun m hm=>by cases hm)
  simp [chkB,Sv.w,q0_nil,this]
theorem ok_of {k:Int}{S M:Nat}{x:Sv}(h:x.of k S M)(hS:S≤1000):x.w.OK:=by
 have hl:Lim []:=fun _ h=>(by cases h)
 have hp0:Po []:=⟨fun _ h=>(by cases h),by simp⟩
 have hw0:∀ w ∈ ([]:List W),w.OK:=fun _ h=>(by cases h)
 cases x with
 | q x =>
  have h1:(qn x).length≤qz x:=Nat.le_max_left _ _
  have h2:(qd x).length≤qz x:=by
   unfold qd
   split
   ·simp
   ·exact Nat.le_max_right _ _
  have:=h.2
  exact .mk (lim_qn x) (lim_qd x) (by omega) (by omega) hp0 (by simp) hw0
 | c i n=>exact .mk hl hl (by simp) (by simp) hp0 (by simp) hw0
 | s u=>exact .mk hl hl (by simp) (by simp) hp0 (by simp) hw0
 | p l=>exact .mk hl hl (by simp) (by simp) (po_of h.2.1 hS) (by simp) hw0
theorem orV_u64 (u v:Int):u64r (orV .u64 u v):=by
 have h:=Go.wf_wrap .u64 ((BitVec.ofInt 64 u ||| BitVec.ofInt 64 v).toNat:Int)
 simp only [Lit.wf,Bool.and_eq_true,decide_eq_true_eq] at h
 have e1:IntKind.min .u64=0:=by rfl
 have e2:IntKind.max .u64=18446744073709551615:=by rfl
 rw [e1,e2] at h
 have e3:orV .u64 u v=IntKind.wrap .u64 ((BitVec.ofInt 64 u ||| BitVec.ofInt 64 v).toNat:Int):=orV_eq ..
 rw [e3]
 unfold u64r
 omega
end Fi.S
namespace Fi.S
open Go Fi
set_option maxHeartbeats 8000000
attribute [local simp] oo og ci ml mv ld lf fa lo st0 cl ia lr fl ln sv fb mF mi mn bx bc bl pF pT sl EX_skip EX_ret EX_exit EX_kill EX_seq EX_cond EX_block EX_region ROps_nil ROps_cons RK_mov RK_pick RK_bin RK_conv RK_beq RK_aeq RK_nileq RK_un RK_box RK_new RK_load RK_store RK_faddr RK_field RK_iaddr RK_aaddr RK_index RK_build RK_lit RK_len RK_maxi RK_mini RK_app RK_slice RK_mk RK_ext RK_clo RK_call RK_callv RK_callr RK_mkmap RK_mget RK_mput RK_cap RK_appz callFull RK_slen RK_sindex RK_sslice guardV runK argV argsV doCall callPure D.cells FV.cells FV.one D.one oneV St.push St.heap St.setHeap splice partF partD s_add s_sub s_mul s_quo s_rem s_or s_and s_xor s_shl s_shr s_eql s_neq s_lss s_leq s_gtr s_geq unV setVars killVars apartOk finish ressV resV leavesL leaves leaveL leave1 allD mkA fillF finish2 isPure oneOf freezeAll FV.rows FV.rows1 D.norm D.norm1 scalar D.isV FV.shift FV.shiftL AObj.shift pureElem fillE elems FStmt.l FStmt.r FStmt.bl FStmt.lp
theorem plusK_of {k:Int}(hk:single k=true){S M:Nat}(hS:1≤S){x y:Sv}(hx:x.of k S M)(hy:y.of k S M):(plusK k x y).of k (S+S+1) (M+M):=by
 rcases single_five hk with rfl | rfl | rfl | rfl | rfl
 ·cases x with
  | q x=>cases y with
   | q y =>
    refine ⟨.inl rfl, ?_⟩
    have:=qz_add x y
    have:=hx.2
    have:=hy.2
    show qz (x+y)≤_
    omega
   | c j m=>exact absurd hy.1 (by decide)
   | s v=>exact absurd hy.1 (by decide)
   | p b=>exact absurd hy.1 (by decide)
  | c i n=>exact absurd hx.1 (by decide)
  | s u=>exact absurd hx.1 (by decide)
  | p a=>exact absurd hx.1 (by decide)
 ·cases x with
  | c i n=>cases y with
   | c j m =>
    show Sv.of 2 _ _ (if lessC j m i n then .c j m else .c i n)
    split
    ·exact hy
    ·exact hx
   | q y=>rcases hy.1 with h | h; exact absurd h (by decide); exact absurd h.1 (by decide)
   | s v=>exact absurd hy.1 (by decide)
   | p b=>exact absurd hy.1 (by decide)
  | q x=>rcases hx.1 with h | h; exact absurd h (by decide); exact absurd h.1 (by decide)
  | s u=>exact absurd hx.1 (by decide)
  | p a=>exact absurd hx.1 (by decide)
 ·cases x with
  | q x=>cases y with
   | q y =>
    show Sv.of 3 _ _ (if x<y then .q y else .q x)
    split
    ·exact Sv.of.mono hy (by omega) (by omega)
    ·exact Sv.of.mono hx (by omega) (by omega)
   | c j m=>exact absurd hy.1 (by decide)
   | s v=>exact absurd hy.1 (by decide)
   | p b=>exact absurd hy.1 (by decide)
  | c i n=>exact absurd hx.1 (by decide)
  | s u=>exact absurd hx.1 (by decide)
  | p a=>exact absurd hx.1 (by decide)
 ·cases x with
  | s u=>cases y with
   | s v=>exact ⟨rfl,orV_u64 u v⟩
   | q y=>rcases hy.1 with h | h; exact absurd h (by decide); exact absurd h.1 (by decide)
   | c j m=>exact absurd hy.1 (by decide)
   | p b=>exact absurd hy.1 (by decide)
  | q x=>rcases hx.1 with h | h; exact absurd h (by decide); exact absurd h.1 (by decide)
  | c i n=>exact absurd hx.1 (by decide)
  | p a=>exact absurd hx.1 (by decide)
 ·cases x with
  | p a=>cases y with
   | p b=>exact ⟨rfl,addP_pv2 hS hS hx.2.1 hy.2.1,Nat.le_trans (addP_length a b) (Nat.add_le_add hx.2.2 hy.2.2)⟩
   | q y=>rcases hy.1 with h | h; exact absurd h (by decide); exact absurd h.1 (by decide)
   | c j m=>exact absurd hy.1 (by decide)
   | s v=>exact absurd hy.1 (by decide)
  | q x=>rcases hx.1 with h | h; exact absurd h (by decide); exact absurd h.1 (by decide)
  | c i n=>exact absurd hx.1 (by decide)
  | s u=>exact absurd hx.1 (by decide)
theorem prodE_nil (a:List Ent):prodE a []=[]:=by
 induction a with
 | nil=>rfl
 | cons p r ih =>
  have:prodE (p::r) []=prodP p []++prodE r []:=by simp [prodE]
  rw [this,ih]; rfl
theorem times_zero {k:Int}(hk:single k=true){S M:Nat}{x:Sv}(hx:x.of k S M):timesK x (zeroK k)=zeroK k:=by
 rcases single_five hk with rfl | rfl | rfl | rfl | rfl
 ·cases x with
  | q x=>show Sv.q (x*0)=.q 0; rw [Rat.mul_zero]
  | c i n=>exact absurd hx.1 (by decide)
  | s u=>exact absurd hx.1 (by decide)
  | p a=>exact absurd hx.1 (by decide)
 ·cases x with
  | c i n =>
   show (if i||(true||decide (1099511627776<n+0)) then Sv.c true 0 else .c false (n+0))=.c true 0
   simp
  | q x=>rcases hx.1 with h | h; exact absurd h (by decide); exact absurd h.1 (by decide)
  | s u=>exact absurd hx.1 (by decide)
  | p a=>exact absurd hx.1 (by decide)
 ·cases x with
  | q x=>show Sv.q (x*0)=.q 0; rw [Rat.mul_zero]
  | c i n=>exact absurd hx.1 (by decide)
  | s u=>exact absurd hx.1 (by decide)
  | p a=>exact absurd hx.1 (by decide)
 ·cases x with
  | s u =>
   show Sv.s (andV .u64 u 0)=.s 0
   have:andV .u64 u 0=0:=by
    rw [andV_eq]
    have h0:BitVec.ofInt (IntKind.bits .u64) 0=0#(IntKind.bits .u64):=rfl
    rw [h0,BitVec.and_zero]
    rfl
   rw [this]
  | q x=>rcases hx.1 with h | h; exact absurd h (by decide); exact absurd h.1 (by decide)
  | c i n=>exact absurd hx.1 (by decide)
  | p a=>exact absurd hx.1 (by decide)
 ·cases x with
  | p a =>
   show Sv.p (mulP a [])=.p []
   have:mulP a []=[]:=by
    unfold mulP
    rw [prodE_nil]
    simp [canon,accP]
   rw [this]
  | q x=>rcases hx.1 with h | h; exact absurd h (by decide); exact absurd h.1 (by decide)
  | c i n=>exact absurd hx.1 (by decide)
  | s u=>exact absurd hx.1 (by decide)
theorem ca_value_yes {k:Int}{ps:List Int}(hl:ps.length≤1000000){w:W}(hw:w.OK)(h:checkB k ps w=true):Ca E1 41 [.d (rgD k ps),.d w.d] (.d w.d,none):=by
 have t0:=ca_Check k ps w hl hw
 rw [h] at t0
 obtain ⟨N,t⟩:=(Ca.up1 t0).get
 obtain ⟨vs,vl1,vl2,vc,vb,vu,vp,vps,ev⟩:=w.wD_of
 rw [ev] at t ⊢
 refine Ca.ofS (n:=N+60) ?_
 rw [CL_fn rfl (k41:E1.fn _=_) rfl]
 unfold wD rgD at *
 generalize LK .i64 ps=l1 at *
 clear ev t0
 simp -implicitDefEqProofs [f41,t]
end Fi.S
