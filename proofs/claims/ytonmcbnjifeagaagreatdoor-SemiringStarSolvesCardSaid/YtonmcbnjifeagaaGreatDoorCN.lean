/- Sums and products of weights. -/
import Derived.Test.YtonmcbnjifeagaaGreatDoorCL
import Derived.OpenShut
set_option linter.unusedVariables false
set_option linter.unusedSimpArgs false
noncomputable section
namespace Fi.S
open Go Fi
set_option maxHeartbeats 8000000
inductive Sv where
 | q (x:Rat)
 | c (i:Bool) (n:Int)
 | s (u:Int)
 | p (l:List Ent)
def Sv.w:Sv->W
 | .q x=>.mk (qs x) (qn x) (qd x) 0 false 0 [] []
 | .c i n=>.mk false [] [] n i 0 [] []
 | .s u=>.mk false [] [] 0 false u [] []
 | .p l=>.mk false [] [] 0 false 0 (l.map entMo) []
def Sv.of (k:Int)(S M:Nat):Sv->Prop
 | .q x=>(k=1\/(k=3/\0<=x/\x<=1))/\qz x<=S
 | .c i n=>k=2/\0<=n/\n<=1099511627776/\(i=true->n=0)
 | .s u=>k=4/\u64r u
 | .p l=>k=5/\PV S l/\l.length<=M
theorem Sv.of.mono {k:Int}{S T M M':Nat}{x:Sv}(h:x.of k S M)(hST:S<=T)(hM:M<=M'):x.of k T M':=by
 cases x with
 | q x=>exact⟨h.1,Nat.le_trans h.2 hST⟩
 | c i n=>exact h
 | s u=>exact h
 | p l=>exact⟨h.1,h.2.1.mono hST,Nat.le_trans h.2.2 hM⟩
end Fi.S
namespace Fi.S
open Go Fi
set_option maxHeartbeats 8000000
attribute [local simp] oo og ci ml mv ld lf fa lo st0 cl ia lr fl ln sv fb mF mi mn bx bc bl pF pT sl EX_skip EX_ret EX_exit EX_kill EX_seq EX_cond EX_block EX_region ROps_nil ROps_cons RK_mov RK_pick RK_bin RK_conv RK_beq RK_aeq RK_nileq RK_un RK_box RK_new RK_load RK_store RK_faddr RK_field RK_iaddr RK_aaddr RK_index RK_build RK_lit RK_len RK_maxi RK_mini RK_app RK_slice RK_mk RK_ext RK_clo RK_call RK_callv RK_callr RK_callw RK_loadl RK_mkmap RK_mget RK_mput RK_cap RK_appz callFull RK_slen RK_sindex RK_sslice guardV runK argV argsV doCall callPure D.cells FV.cells FV.one D.one oneV St.push St.heap St.setHeap splice partF partD s_add s_sub s_mul s_quo s_rem s_or s_and s_xor s_shl s_shr s_eql s_neq s_lss s_leq s_gtr s_geq unV setVars killVars apartOk finish ressV resV leavesL leaves leaveL leave1 allD mkA fillF finish2 isPure oneOf freezeAll FV.rows FV.rows1 D.norm D.norm1 scalar D.isV FV.shift FV.shiftL AObj.shift pureElem fillE elems FStmt.l FStmt.r FStmt.bl FStmt.lp
def lessC (i:Bool)(n:Int)(j:Bool)(m:Int):Bool := !i&&(j||decide (n<m))
noncomputable def plusK (k:Int):Sv->Sv->Sv
 | .q x,.q y=>if k=3 then(if x<y then .q y else .q x) else .q (x+y)
 | .c i n,.c j m=>if lessC j m i n then .c j m else .c i n
 | .s u,.s v=>.s (orV .u64 u v)
 | .p a,.p b=>.p (addP a b)
 | x,_=>x
noncomputable def timesK:Sv->Sv->Sv
 | .q x,.q y=>.q (x*y)
 | .c i n,.c j m=>if i||(j||decide (1099511627776<n+m)) then .c true 0 else .c false (n+m)
 | .s u,.s v=>.s (andV .u64 u v)
 | .p a,.p b=>.p (mulP a b)
 | x,_=>x
theorem wP_d (l:List Ent):(Sv.p l).w.d=.a [.v (.bool false),.s 1 [],.s 1 [],.v (.int .i64 0),.v (.bool false),.v (.int .u64 0),polD l,.s 8 []]:=by
 simp only[Sv.w,W.d,W.ds,LD,LL,List.map_nil,polD_eq]
section
def wD (s:Bool)(l1 l2:List D)(c:Int)(b:Bool)(u:Int)(p ps:List D):D:=.a [.v (.bool s),.s 1 l1,.s 1 l2,.v (.int .i64 c),.v (.bool b),.v (.int .u64 u),.s 6 p,.s 8 ps]
theorem W.wD_of (w:W):∃ s l1 l2 c b u p ps,w.d=wD s l1 l2 c b u p ps:=by
 obtain⟨s,a,b,c,i,u,p,ps⟩:=w;exact⟨s,LL a,LL b,c,i,u,p.map Mo.d,W.ds ps,rfl⟩
section parts
variable (H:List AObj) (iv iw i:Nat) (v0 v1 v2 v3 v4 v5 v6 w0 w1 w2 w3 w4 w5 w6:FV) (vs ws:List D) (x y z:W)
end parts
end
def algO (k:Int)(o:Nat):FV :=
 if k=1 then kindV1 else if k=5 then kindV5
 else if k=2 then .a [(.d (.fn 122)),(.d (.fn 123)),(.d (.fn 124)),(.d (.fn 125)),(.d (.fn 127)),(.f 195 [] [(.r (.old (o+3)) 0)]),(.d (.fn 126)),(.d (.fn 128)),(.f 131 [] [(.r (.old (o+2)) 0)])]
 else if k=3 then .a [(.d (.fn 133)),(.d (.fn 110)),(.d (.fn 111)),(.f 137 [] [(.r (.old (o+2)) 0)]),(.d (.fn 115)),(.f 195 [] [(.r (.old (o+3)) 0)]),(.d (.fn 136)),(.d (.fn 119)),(.f 138 [] [(.r (.old (o+2)) 0)])]
 else .a [(.d (.fn 139)),(.d (.fn 140)),(.d (.fn 141)),(.d (.fn 142)),(.d (.fn 143)),(.f 195 [] [(.r (.old (o+3)) 0)]),(.d (.fn 118)),(.d (.fn 144)),(.f 147 [] [(.r (.old (o+2)) 0)])]
def box3 (o:Nat):AObj:=.box [(.d (.fn 133)),(.d (.fn 110)),(.d (.fn 111)),(.f 137 [] [(.r (.old (o+2)) 0)]),(.d (.fn 115)),(.f 195 [] [(.r (.old (o+3)) 0)]),(.d (.fn 136)),(.d (.fn 119)),(.f 138 [] [(.r (.old (o+2)) 0)])]
def zBox (px:FV):AObj:=.box [.d (.v (.bool false)),.d (.n 1),.d (.n 1),.d (.v (.int .i64 0)),.d (.v (.bool false)),.d (.v (.int .u64 0)),.d (.n 6),px]
def OutAt8 (px:FV)(L:List AObj)(zs:List D):Prop:=(px=.d (.n 8)/\zs=[])\/∃ j ver,px=.ls (.loc j) ver 8 0 zs.length/\L[j]?=some (.row ver 8 zs)
def eaL:FStmt:=f43.body.r.r.l.r.bl.lp
def eaS (g iv iw:Nat)(ps:List Int)(i:Nat)(t:FV)(B L:List AObj):St :=
 {vars:=[.u,.f g [] [.r (.old iv) 0,.r (.old iw) 0],.u,.r (.loc 1) 0,.r (.loc 2) 0,.u,.u,.d (.s 1 (LK .i64 ps)),.d (.v (.int .i64 ps.length)),.d (.v (.int .i64 i)),t],base:=B,loc:=L,dirty:=false}
def StepAt (g iv iw:Nat)(vb wb:AObj)(k:Int)(i:Nat)(z:W):Prop :=
 ∃ N,∀ (H:List AObj) (o:Nat),H[iv]?=some vb->H[iw]?=some wb->(k=3->H[o+2]?=some (box3 o))->∀ m,CL E1 (N+m) g [algO k o,.d (.v (.int .i64 i)),.r (.old iv) 0,.r (.old iw) 0] H=some (.d z.d,none)
def wProd (zs:List W):W:=.mk false [] [] 0 false 0 [] zs
theorem rv_true {k:Int}{ps:List Int}(h:validRg k ps=true)(n:Nat):CL E1 (n+500) 31 [.d (rgD k ps)] []=some (.d (.v (.bool true)),none):=by
 have:=(Ca.up1 (Ca.ofS (run_rvalid 0 k ps)))
 have t:=run_rvalid n k ps;rw[h]at t;rw[CL_eq]at t ⊢;exact enter_le E0_le1 (exec_le E0_le1 _) t
section
section parts
variable (H:List AObj) (iv iw i:Nat) (v0 v1 v2 v3 v4 v5 v6 w0 w1 w2 w3 w4 w5 w6:FV) (vs ws:List D) (x y z:W)
end parts
end
section
def plusN (k:Int):Nat:=if k=1 then 113 else if k=2 then 125 else if k=4 then 142 else 154
def timesN (k:Int):Nat:=if k=1 then 115 else if k=2 then 127 else if k=3 then 115 else if k=4 then 143 else 156
def PlusC (k:Int)(x y z:W):Prop :=
 ∃ N,(k=3->∀ (B:List AObj) (j o:Nat),B[j]?=some (box3 o)->∀ m,CL E1 (N+m) 137 [.d x.d,.d y.d,.r (.old j) 0] B=some (.d z.d,none)) /\
  (k≠3->∀ m,CL E1 (N+m) (plusN k) [.d x.d,.d y.d] []=some (.d z.d,none))
def TimesC (k:Int)(x y z:W):Prop:=Ca E1 (timesN k) [.d x.d,.d y.d] (.d z.d,none)
section steps
variable {iv iw i:Nat} {v0 v1 v2 v3 v4 v5 v6 w0 w1 w2 w3 w4 w5 w6:FV} {vs ws:List D} {x y z:W} {k:Int}
end steps
def pBox (xs:List W):AObj:=.box [.d (.v (.bool false)),.d (.s 1 []),.d (.s 1 []),.d (.v (.int .i64 0)),.d (.v (.bool false)),.d (.v (.int .u64 0)),.d (.s 6 []),.d (.s 8 (W.ds xs))]
theorem rg6 {ps:List Int}(h:validRg 6 ps=true):ps.length<=3/\2<=ps.length/\∀ k ∈ ps,single k=true:=by
 unfold validRg at h;rw[if_neg (by simp)]at h;simp only[Bool.and_eq_true,decide_eq_true_eq,List.all_eq_true]at h;exact⟨h.1.2,h.1.1,h.2⟩
end
end Fi.S
namespace Fi.S
open Go Fi
set_option maxHeartbeats 8000000
def zeroK (k:Int):Sv:=if k=2 then .c true 0 else if k=4 then .s 0 else if k=5 then .p [] else .q 0
inductive W.Sm (S:Nat):W->Prop
 | mk {s:Bool} {a b:List Nat} {c:Int} {i:Bool} {u:Int} {p:List Mo} {ps:List W} (ha:Lim a) (hb:Lim b) (la:a.length<=S) (lb:b.length<=S) (hp:∀ m ∈ p,Lim m.a/\Lim m.b/\m.a.length<=S/\m.b.length<=S) (hu:u64r u)
   (h:∀ w ∈ ps,W.Sm S w):W.Sm S (.mk s a b c i u p ps)
def W.mons:W->List Mo
 | .mk _ _ _ _ _ _ p _=>p
theorem q0_nil:q0 false [] []=true:=rfl
theorem chk_of {k:Int}{S M:Nat}{x:Sv}(h:x.of k S M):chkB k x.w=true:=by
 cases x with
 | q x =>
  obtain⟨h1,h2⟩:=h;have hv:=validR_qD x;rcases h1 with rfl|⟨rfl,h0,h1⟩
  ·simp[chkB,Sv.w,hv]
  ·have e:ratOf (qs x) (qn x) (qd x)=x:=ratOf_qD x;have h3:(0:Int)<=x.num.sign:=Int.sign_nonneg_iff.2 (Rat.num_nonneg.2 h0);have h4:¬ (1:Rat)<x:=by grind
   simp[chkB,Sv.w,hv,e,h3,h4]
 | c i n =>
  obtain⟨rfl,h1,h2,h3⟩:=h;cases i with
  | false=>simp[chkB,Sv.w,h1,h2,q0_nil]
  | true =>
   have:=h3 rfl;subst this;simp[chkB,Sv.w,q0_nil]
 | s u =>
  obtain⟨rfl,_⟩:=h;simp[chkB,Sv.w,q0_nil]
 | p l =>
  obtain⟨rfl,h1,_⟩:=h;have:=pv_none h1 (q:=none) (fun m hm=>by cases hm);simp[chkB,Sv.w,q0_nil,this]
theorem ok_of {k:Int}{S M:Nat}{x:Sv}(h:x.of k S M)(hS:S<=1000):x.w.OK:=by
 have hl:Lim []:=fun _ h=>(by cases h)
 have hp0:Po []:=⟨fun _ h=>(by cases h),by simp⟩
 have hw0:∀ w ∈ ([]:List W),w.OK:=fun _ h=>(by cases h)
 cases x with
 | q x =>
  have h1:(qn x).length<=qz x:=Nat.le_max_left _ _;have h2:(qd x).length<=qz x:=by
   unfold qd;split
   ·simp
   ·exact Nat.le_max_right _ _
  have:=h.2;exact .mk (lim_qn x) (lim_qd x) (by omega) (by omega) hp0 (by simp) hw0
 | c i n=>exact .mk hl hl (by simp) (by simp) hp0 (by simp) hw0
 | s u=>exact .mk hl hl (by simp) (by simp) hp0 (by simp) hw0
 | p l=>exact .mk hl hl (by simp) (by simp) (po_of h.2.1 hS) (by simp) hw0
end Fi.S
namespace Fi.S
open Go Fi
set_option maxHeartbeats 8000000
attribute [local simp] oo og ci ml mv ld lf fa lo st0 cl ia lr fl ln sv fb mF mi mn bx bc bl pF pT sl EX_skip EX_ret EX_exit EX_kill EX_seq EX_cond EX_block EX_region ROps_nil ROps_cons RK_mov RK_pick RK_bin RK_conv RK_beq RK_aeq RK_nileq RK_un RK_box RK_new RK_load RK_store RK_faddr RK_field RK_iaddr RK_aaddr RK_index RK_build RK_lit RK_len RK_maxi RK_mini RK_app RK_slice RK_mk RK_ext RK_clo RK_call RK_callv RK_callr RK_callw RK_loadl RK_mkmap RK_mget RK_mput RK_cap RK_appz callFull RK_slen RK_sindex RK_sslice guardV runK argV argsV doCall callPure D.cells FV.cells FV.one D.one oneV St.push St.heap St.setHeap splice partF partD s_add s_sub s_mul s_quo s_rem s_or s_and s_xor s_shl s_shr s_eql s_neq s_lss s_leq s_gtr s_geq unV setVars killVars apartOk finish ressV resV leavesL leaves leaveL leave1 allD mkA fillF finish2 isPure oneOf freezeAll FV.rows FV.rows1 D.norm D.norm1 scalar D.isV FV.shift FV.shiftL AObj.shift pureElem fillE elems FStmt.l FStmt.r FStmt.bl FStmt.lp
theorem ca_value_yes {k:Int}{ps:List Int}(hl:ps.length<=1000000){w:W}(hw:w.OK)(h:checkB k ps w=true):Ca E1 41 [.d (rgD k ps),.d w.d] (.d w.d,none):=by
 have t0:=ca_Check k ps w hl hw;rw[h]at t0;obtain⟨N,t⟩:=(Ca.up1 t0).get;obtain⟨vs,vl1,vl2,vc,vb,vu,vp,vps,ev⟩:=w.wD_of;rw[ev]at t ⊢;refine Ca.ofS (n:=N+60) ?_;rw[CL_fn rfl (k41:E1.fn _=_) rfl];unfold wD rgD at*;generalize LK .i64 ps=l1 at*;clear ev t0;simp -implicitDefEqProofs [f41,t]
end Fi.S
