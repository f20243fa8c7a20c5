/- Semirings; weights of a semiring. -/
import Derived.Test.YtonmcbnjifeagaaGreatDoorCD
set_option linter.unusedVariables false
set_option linter.unusedSimpArgs false
noncomputable section
namespace Fi.S
open Go Fi
set_option maxHeartbeats 8000000
attribute [local simp] oo og ci ml mv ld lf fa lo st0 cl ia lr fl ln sv fb mF mi mn bx bc bl pF pT sl EX_skip EX_ret EX_exit EX_kill EX_seq EX_cond EX_block EX_region ROps_nil ROps_cons RK_mov RK_pick RK_bin RK_conv RK_beq RK_aeq RK_nileq RK_un RK_box RK_new RK_load RK_store RK_faddr RK_field RK_iaddr RK_aaddr RK_index RK_build RK_lit RK_len RK_maxi RK_mini RK_app RK_slice RK_mk RK_ext RK_clo RK_call RK_callv RK_callr RK_callw RK_loadl RK_mkmap RK_mget RK_mput RK_cap RK_appz callFull RK_slen RK_sindex RK_sslice guardV runK argV argsV doCall callPure D.cells FV.cells FV.one D.one oneV St.push St.heap St.setHeap splice partF partD s_add s_sub s_mul s_quo s_rem s_or s_and s_xor s_shl s_shr s_eql s_neq s_lss s_leq s_gtr s_geq unV setVars killVars apartOk finish ressV resV leavesL leaves leaveL leave1 allD mkA fillF finish2 isPure oneOf freezeAll FV.rows FV.rows1 D.norm D.norm1 scalar D.isV FV.shift FV.shiftL AObj.shift pureElem fillE elems FStmt.l FStmt.r FStmt.bl FStmt.lp
set_option maxRecDepth 4000
def rgD (k:Int)(ps:List Int):D:=.a [.v (.int .i64 k),.s 1 (LK .i64 ps)]
def single (k:Int):Bool:=decide (1<=k)&&decide (k<=5)
def validRg (k:Int)(ps:List Int):Bool:=if k≠6 then single k&&decide (ps=[]) else decide (2<=ps.length)&&decide (ps.length<=3)&&ps.all single
theorem run_single (n:Nat)(k:Int):CL E0 (n+30) 67 [.d (.v (.int .i64 k))] []=some (.d (.v (.bool (single k))),none):=by
 rw[CL_fn rfl (k67:E0.fn _=_) rfl];unfold single
 by_cases h:1<=k
 ·by_cases h2:k<=5
  ·simp -implicitDefEqProofs [f67,h,h2]
  ·simp -implicitDefEqProofs [f67,h,h2]
 ·simp -implicitDefEqProofs [f67,h]
theorem run_notsingle (n:Nat)(k:Int):CL E0 (n+60) 69 [.d (.v (.int .i64 k))] []=some (.d (.v (.bool (!single k))),none):=by
 have h:=fun m=>run_single m k
 rw[CL_fn rfl (k69:E0.fn _=_) rfl];generalize single k=b at*;simp -implicitDefEqProofs [f69,h]
theorem run_contains2 (n:Nat)(x y:Int):CL E0 (n+300) 68 [.d (.s 1 (LK .i64 [x,y])),.d (.fn 69)] []=some (.d (.v (.bool (!(single x&&single y)))),none):=by
 have h1:=fun m=>run_notsingle m x
 have h2:=fun m=>run_notsingle m y
 have w1:wrapS .i64 1=1:=wrap_i64 (by omega);have w2:wrapS .i64 2=2:=wrap_i64 (by omega);have hi:∃ v:Int,(decide (0<=v) = !(single x&&single y))/\∀ m,CL E0 (m+200) 100 [.d (.s 1 (LK .i64 [x,y])),.d (.fn 69)] []=some (.d (.v (.int .i64 v)),none):=by
  cases hx:single x
  ·refine⟨0,rfl,fun m => ?_⟩;rw[hx]at h1;rw[CL_fn rfl (k100:E0.fn _=_) rfl];simp only[LK,List.map_cons,List.map_nil];simp -implicitDefEqProofs [f100,EX_loop,w1,w2,h1]
  ·cases hy:single y
   ·refine⟨1,rfl,fun m => ?_⟩;rw[hx]at h1;rw[hy]at h2;rw[CL_fn rfl (k100:E0.fn _=_) rfl];simp only[LK,List.map_cons,List.map_nil];simp -implicitDefEqProofs [f100,EX_loop,w1,w2,h1,h2]
   ·refine⟨-1,rfl,fun m => ?_⟩;rw[hx]at h1;rw[hy]at h2;rw[CL_fn rfl (k100:E0.fn _=_) rfl];simp only[LK,List.map_cons,List.map_nil];simp -implicitDefEqProofs [f100,EX_loop,w1,w2,h1,h2]
 obtain⟨v,hv,hi⟩:=hi;rw[CL_fn rfl (k68:E0.fn _=_) rfl];rw[<-hv];generalize LK .i64 [x,y]=l at*;simp -implicitDefEqProofs [f68,hi]
theorem run_contains3 (n:Nat)(x y z:Int):CL E0 (n+300) 68 [.d (.s 1 (LK .i64 [x,y,z])),.d (.fn 69)] []=some (.d (.v (.bool (!(single x&&(single y&&single z))))),none):=by
 have h1:=fun m=>run_notsingle m x
 have h2:=fun m=>run_notsingle m y
 have h3:=fun m=>run_notsingle m z
 have w1:wrapS .i64 1=1:=wrap_i64 (by omega);have w2:wrapS .i64 2=2:=wrap_i64 (by omega);have w3:wrapS .i64 3=3:=wrap_i64 (by omega);have hi:∃ v:Int,(decide (0<=v) = !(single x&&(single y&&single z)))/\∀ m,CL E0 (m+200) 100 [.d (.s 1 (LK .i64 [x,y,z])),.d (.fn 69)] []=some (.d (.v (.int .i64 v)),none):=by
  cases hx:single x
  ·refine⟨0,rfl,fun m => ?_⟩;rw[hx]at h1;rw[CL_fn rfl (k100:E0.fn _=_) rfl];simp only[LK,List.map_cons,List.map_nil];simp -implicitDefEqProofs [f100,EX_loop,w1,w2,h1]
  ·cases hy:single y
   ·refine⟨1,rfl,fun m => ?_⟩;rw[hx]at h1;rw[hy]at h2;rw[CL_fn rfl (k100:E0.fn _=_) rfl];simp only[LK,List.map_cons,List.map_nil];simp -implicitDefEqProofs [f100,EX_loop,w1,w2,h1,h2]
   ·cases hz:single z
    ·refine⟨2,rfl,fun m => ?_⟩;rw[hx]at h1;rw[hy]at h2;rw[hz]at h3;rw[CL_fn rfl (k100:E0.fn _=_) rfl];simp only[LK,List.map_cons,List.map_nil];simp -implicitDefEqProofs [f100,EX_loop,w1,w2,w3,h1,h2,h3]
    ·refine⟨-1,rfl,fun m => ?_⟩;rw[hx]at h1;rw[hy]at h2;rw[hz]at h3;rw[CL_fn rfl (k100:E0.fn _=_) rfl];simp only[LK,List.map_cons,List.map_nil];simp -implicitDefEqProofs [f100,EX_loop,w1,w2,w3,h1,h2,h3]
 obtain⟨v,hv,hi⟩:=hi;rw[CL_fn rfl (k68:E0.fn _=_) rfl];rw[<-hv];generalize LK .i64 [x,y,z]=l at*;simp -implicitDefEqProofs [f68,hi]
theorem run_rvalid (n:Nat)(k:Int)(ps:List Int):CL E0 (n+500) 31 [.d (rgD k ps)] []=some (.d (.v (.bool (validRg k ps))),none):=by
 have hs:=fun m=>run_single m k
 rw[CL_fn rfl (k31:E0.fn _=_) rfl];unfold validRg rgD
 by_cases hk:k=6
 ·subst hk;rw[if_neg (by simp)]
  match ps with
  | []=>simp -implicitDefEqProofs [f31,LK]
  | [x]=>simp -implicitDefEqProofs [f31,LK]
  | [x,y] =>
   have h:=fun m=>run_contains2 m x y
   simp only[LK,List.map_cons,List.map_nil]at h;simp -implicitDefEqProofs [f31,LK,h]
  | [x,y,z] =>
   have h:=fun m=>run_contains3 m x y z
   simp only[LK,List.map_cons,List.map_nil]at h;simp -implicitDefEqProofs [f31,LK,h]
  | x::y::z::w::r =>
   have h2:(2:Int)<=(r.length:Int)+1+1+1+1:=by omega
   have h3:¬ (r.length:Int)+1+1+1+1<=3:=by omega
   simp -implicitDefEqProofs [f31,LK,h2,h3]
 ·rw[if_pos hk];have hne:(k != 6)=true:=by simpa using hk
  cases hb:single k
  ·rw[hb]at hs;generalize LK .i64 ps=l at*;simp -implicitDefEqProofs [f31,hne,hs]
  ·rw[hb]at hs;cases ps with
   | nil=>simp -implicitDefEqProofs [f31,LK,hne,hs]
   | cons x r =>
    have h0:(((r.length:Int)+1)==0)=false:=by simp;omega
    simp -implicitDefEqProofs [f31,LK,hne,hs,h0]
theorem single_cases (x:Int):(single x=true/\¬ x<1/\¬ 5<x)\/(single x=false/\x<1)\/(single x=false/\¬ x<1/\5<x):=by
 unfold single
 by_cases h1:x<1
 ·have:¬ 1<=x:=by omega
  simp[this,h1]
 ·by_cases h2:5<x
  ·have:¬ x<=5:=by omega
   simp[this,h1,h2]
  ·have a1:1<=x:=by omega
   have a2:x<=5:=by omega
   simp[a1,a2]
theorem run_wrvalid (n:Nat)(k:Int)(ps:List Int):CL E0 (n+500) 28 [.d (rgD k ps)] []=some (.d (.v (.bool (validRg k ps))),none):=by
 rw[CL_fn rfl (k28:E0.fn _=_) rfl];have w1:wrapS .i64 1=1:=wrap_i64 (by omega);have w2:wrapS .i64 2=2:=wrap_i64 (by omega);have w3:wrapS .i64 3=3:=wrap_i64 (by omega);unfold validRg rgD
 by_cases hk:k=6
 ·subst hk;rw[if_neg (by simp)]
  match ps with
  | []=>simp -implicitDefEqProofs [f28,LK]
  | [x]=>simp -implicitDefEqProofs [f28,LK]
  | [x,y] =>
   rcases single_cases x with ⟨a,a1,a2⟩|⟨a,a1⟩|⟨a,a1,a2⟩
   ·rcases single_cases y with ⟨b,b1,b2⟩|⟨b,b1⟩|⟨b,b1,b2⟩
    ·simp -implicitDefEqProofs [f28,EX_loop,LK,w1,w2,a,a1,a2,b,b1,b2]
    ·simp -implicitDefEqProofs [f28,EX_loop,LK,w1,w2,a,a1,a2,b,b1]
    ·simp -implicitDefEqProofs [f28,EX_loop,LK,w1,w2,a,a1,a2,b,b1,b2]
   ·simp -implicitDefEqProofs [f28,EX_loop,LK,w1,w2,a,a1]
   ·simp -implicitDefEqProofs [f28,EX_loop,LK,w1,w2,a,a1,a2]
  | [x,y,z] =>
   rcases single_cases x with ⟨a,a1,a2⟩|⟨a,a1⟩|⟨a,a1,a2⟩
   ·rcases single_cases y with ⟨b,b1,b2⟩|⟨b,b1⟩|⟨b,b1,b2⟩
    ·rcases single_cases z with ⟨c,c1,c2⟩|⟨c,c1⟩|⟨c,c1,c2⟩
     ·simp -implicitDefEqProofs [f28,EX_loop,LK,w1,w2,w3,a,a1,a2,b,b1,b2,c,c1,c2]
     ·simp -implicitDefEqProofs [f28,EX_loop,LK,w1,w2,w3,a,a1,a2,b,b1,b2,c,c1]
     ·simp -implicitDefEqProofs [f28,EX_loop,LK,w1,w2,w3,a,a1,a2,b,b1,b2,c,c1,c2]
    ·simp -implicitDefEqProofs [f28,EX_loop,LK,w1,w2,a,a1,a2,b,b1]
    ·simp -implicitDefEqProofs [f28,EX_loop,LK,w1,w2,a,a1,a2,b,b1,b2]
   ·simp -implicitDefEqProofs [f28,EX_loop,LK,w1,w2,a,a1]
   ·simp -implicitDefEqProofs [f28,EX_loop,LK,w1,w2,a,a1,a2]
  | x::y::z::w::r =>
   have h2:¬ (r.length:Int)+1+1+1+1<2:=by omega
   have h3:(3:Int)<(r.length:Int)+1+1+1+1:=by omega
   simp -implicitDefEqProofs [f28,LK,h2,h3]
 ·rw[if_pos hk];have hne:(k != 6)=true:=by simpa using hk
  unfold single
  by_cases b1:1<=k
  ·by_cases b2:k<=5
   ·cases ps with
    | nil=>simp -implicitDefEqProofs [f28,LK,hne,b1,b2]
    | cons x r =>
     have h0:(((r.length:Int)+1)==0)=false:=by simp;omega
     simp -implicitDefEqProofs [f28,LK,hne,b1,b2,h0]
   ·generalize LK .i64 ps=l at*;simp -implicitDefEqProofs [f28,hne,b1,b2]
  ·generalize LK .i64 ps=l at*;simp -implicitDefEqProofs [f28,hne,b1]
end Fi.S

namespace Fi.S
open Go Fi
set_option maxHeartbeats 8000000
attribute [local simp] oo og ci ml mv ld lf fa lo st0 cl ia lr fl ln sv fb mF mi mn bx bc bl pF pT sl EX_skip EX_ret EX_exit EX_kill EX_seq EX_cond EX_block EX_region ROps_nil ROps_cons RK_mov RK_pick RK_bin RK_conv RK_beq RK_aeq RK_nileq RK_un RK_box RK_new RK_load RK_store RK_faddr RK_field RK_iaddr RK_aaddr RK_index RK_build RK_lit RK_len RK_maxi RK_mini RK_app RK_slice RK_mk RK_ext RK_clo RK_call RK_callv RK_callr RK_callw RK_loadl RK_mkmap RK_mget RK_mput RK_cap RK_appz callFull RK_slen RK_sindex RK_sslice guardV runK argV argsV doCall callPure D.cells FV.cells FV.one D.one oneV St.push St.heap St.setHeap splice partF partD s_add s_sub s_mul s_quo s_rem s_or s_and s_xor s_shl s_shr s_eql s_neq s_lss s_leq s_gtr s_geq unV setVars killVars apartOk finish ressV resV leavesL leaves leaveL leave1 allD mkA fillF finish2 isPure oneOf freezeAll FV.rows FV.rows1 D.norm D.norm1 scalar D.isV FV.shift FV.shiftL AObj.shift pureElem fillE elems FStmt.l FStmt.r FStmt.bl FStmt.lp
set_option maxRecDepth 4000
def q0 (s:Bool)(a b:List Nat):Bool := !s&&decide (a=[])&&decide (b=[])
def chkB (k:Int):W->Bool
 | .mk s a b c i u p ps =>
  if k=1 then validR s a b&&((c==0) && !i&&(u==0)&&p.isEmpty&&ps.isEmpty)
  else if k=2 then(decide (0<=c)&&decide (c<=1099511627776)&&(!i||(c==0)))&&(q0 s a b&&(u==0)&&p.isEmpty&&ps.isEmpty)
  else if k=3 then(validR s a b&&((c==0) && !i&&(u==0)&&p.isEmpty&&ps.isEmpty))&&decide (0<=(ratOf s a b).num.sign) && !decide ((1:Rat)<ratOf s a b)
  else if k=4 then q0 s a b&&(c==0) && !i&&p.isEmpty&&ps.isEmpty
  else pvB none p&&(q0 s a b&&(c==0) && !i&&(u==0)&&ps.isEmpty)
theorem eqL_nil {α:Type}(eq:α->α->Bool)(l:List α):eqL eq l []=l.isEmpty:=by cases l<;>rfl
theorem eqs_nil (l:List W):W.eqs l []=l.isEmpty:=by cases l<;>rfl
theorem eqL_refl {α:Type}{eq:α->α->Bool}(h:∀ x,eq x x=true):∀ l:List α,eqL eq l l=true
 | []=>rfl
 | x::r=>by simp[eqL,h x,eqL_refl h r]
theorem moEq_refl (m:Mo):m.eq m=true:=by simp[Mo.eq]
theorem q0_eq (s:Bool)(a b:List Nat):(s==false&&decide (a=[])&&decide (b=[]))=q0 s a b:=by cases s<;>rfl
theorem ok_zero (s:Bool)(a b:List Nat)(c:Int)(i:Bool)(u:Int)(p:List Mo)(ha:Lim a)(hb:Lim b)(la:a.length<=1000)(lb:b.length<=1000)(hp:Po p):(W.mk s a b c i u p []).OK :=
 .mk ha hb la lb hp (by simp) (fun w hw=>by cases hw)
theorem lim_nil:Lim []:=fun x hx=>by cases hx
theorem po_nil:Po []:=⟨(fun m hm=>by cases hm),by simp⟩
theorem ca_chk1 (w:W)(hw:w.OK):Ca E0 108 [.d w.d] (.d (.v (.bool (chkB 1 w))),none):=by
 cases hw with
 | @mk s a b c i u p ps ha hb la lb hp lp h =>
  obtain⟨n1,t1⟩:=(ca_validR s a b (by omega) (by omega) ha hb).any;obtain⟨n2,t2⟩:=(ca_Equal _ (.mk (c:=c) (i:=i) (u:=u) (s:=s) ha hb la lb hp lp h) _ (ok_zero s a b 0 false 0 [] ha hb la lb po_nil)).any;replace t1:=t1 (n1+n2) (by omega);replace t2:=t2 (n1+n2) (by omega);generalize n1+n2=N at*;have e:W.eq (.mk s a b c i u p ps) (.mk s a b 0 false 0 [] [])=((c==0) && !i&&(u==0)&&p.isEmpty&&ps.isEmpty):=by
   simp only[W.eq,eqL_nil,eqs_nil];cases i<;>simp
  rw[e]at t2;refine Ca.ofS (n:=N+90) ?_;rw[CL_fn rfl (k108:E0.fn _=_) rfl];rw[chkB];rw[if_pos rfl];generalize ((c==0) && !i&&(u==0)&&p.isEmpty&&ps.isEmpty)=r2,validR s a b=r1 at*;simp only[W.d,W.ds,PD,raw,LD]at*;generalize LL a=x1,LL b=x2,W.ds ps=x4 at*;simp only[List.map_nil]at*;generalize List.map Mo.d p=x3 at*;cases r1
  ·simp -implicitDefEqProofs [f108,t1]
  ·simp -implicitDefEqProofs [f108,t1,t2]
theorem ca_chk2 (w:W)(hw:w.OK):Ca E0 122 [.d w.d] (.d (.v (.bool (chkB 2 w))),none):=by
 cases hw with
 | @mk s a b c i u p ps ha hb la lb hp lp h =>
  obtain⟨N,t2⟩:=(ca_Equal _ (.mk (c:=c) (i:=i) (u:=u) (s:=s) ha hb la lb hp lp h) _ (ok_zero false [] [] c i 0 [] lim_nil lim_nil (by simp) (by simp) po_nil)).get;have e:W.eq (.mk s a b c i u p ps) (.mk false [] [] c i 0 [] [])=(q0 s a b&&(u==0)&&p.isEmpty&&ps.isEmpty):=by
   simp only[W.eq,eqL_nil,eqs_nil,q0_eq];simp
  rw[e]at t2;refine Ca.ofS (n:=N+90) ?_;rw[CL_fn rfl (k122:E0.fn _=_) rfl];rw[chkB];rw[if_neg (by omega),if_pos rfl];generalize (q0 s a b&&(u==0)&&p.isEmpty&&ps.isEmpty)=r2 at*;simp only[W.d,W.ds,PD,LD]at*;generalize LL a=x1,LL b=x2,W.ds ps=x4 at*;simp only[List.map_nil,LL]at*;generalize List.map Mo.d p=x3 at*
  by_cases h1:0<=c
  ·by_cases h2:c<=1099511627776
   ·cases i
    ·simp -implicitDefEqProofs [f122,t2,h1,h2]
    ·cases h3:(c==0)
     ·simp -implicitDefEqProofs [f122,t2,h1,h2,h3]
     ·simp -implicitDefEqProofs [f122,t2,h1,h2,h3]
   ·simp -implicitDefEqProofs [f122,h1,h2]
  ·simp -implicitDefEqProofs [f122,h1]
theorem ca_chk4 (w:W)(hw:w.OK):Ca E0 139 [.d w.d] (.d (.v (.bool (chkB 4 w))),none):=by
 cases hw with
 | @mk s a b c i u p ps ha hb la lb hp lp h =>
  obtain⟨N,t2⟩:=(ca_Equal _ (.mk (c:=c) (i:=i) (u:=u) (s:=s) ha hb la lb hp lp h) _ (ok_zero false [] [] 0 false u [] lim_nil lim_nil (by simp) (by simp) po_nil)).get;have e:W.eq (.mk s a b c i u p ps) (.mk false [] [] 0 false u [] [])=(q0 s a b&&(c==0) && !i&&p.isEmpty&&ps.isEmpty):=by
   simp only[W.eq,eqL_nil,eqs_nil,q0_eq];cases i<;>simp
  rw[e]at t2;refine Ca.ofS (n:=N+90) ?_;rw[CL_fn rfl (k139:E0.fn _=_) rfl];rw[chkB];rw[if_neg (by omega),if_neg (by omega),if_neg (by omega),if_pos rfl];generalize (q0 s a b&&(c==0) && !i&&p.isEmpty&&ps.isEmpty)=r2 at*;simp only[W.d,W.ds,PD,LD]at*;generalize LL a=x1,LL b=x2,W.ds ps=x4 at*;simp only[List.map_nil,LL]at*;generalize List.map Mo.d p=x3 at*;simp -implicitDefEqProofs [f139,t2]
theorem ca_chk5 (w:W)(hw:w.OK):Ca E0 149 [.d w.d] (.d (.v (.bool (chkB 5 w))),none):=by
 cases hw with
 | @mk s a b c i u p ps ha hb la lb hp lp h =>
  obtain⟨n1,t1⟩:=(ca_pvalid p hp).any;obtain⟨n2,t2⟩:=(ca_Equal _ (.mk (c:=c) (i:=i) (u:=u) (s:=s) ha hb la lb hp lp h) _ (ok_zero false [] [] 0 false 0 p lim_nil lim_nil (by simp) (by simp) hp)).any;replace t1:=t1 (n1+n2) (by omega);replace t2:=t2 (n1+n2) (by omega);generalize n1+n2=N at*;have e:W.eq (.mk s a b c i u p ps) (.mk false [] [] 0 false 0 p [])=(q0 s a b&&(c==0) && !i&&(u==0)&&ps.isEmpty):=by
   simp only[W.eq,eqL_refl moEq_refl,eqs_nil,q0_eq];cases i<;>simp
  rw[e]at t2;refine Ca.ofS (n:=N+90) ?_;rw[CL_fn rfl (k149:E0.fn _=_) rfl];rw[chkB];rw[if_neg (by omega),if_neg (by omega),if_neg (by omega),if_neg (by omega)];generalize (q0 s a b&&(c==0) && !i&&(u==0)&&ps.isEmpty)=r2,pvB none p=r1 at*;simp only[W.d,W.ds,PD,LD]at*;generalize LL a=x1,LL b=x2,W.ds ps=x4 at*;simp only[List.map_nil,LL]at*;generalize List.map Mo.d p=x3 at*;cases r1
  ·simp -implicitDefEqProofs [f149,t1]
  ·simp -implicitDefEqProofs [f149,t1,t2]
def alg1:D:=.a [(.fn 108),(.fn 110),(.fn 111),(.fn 113),(.fn 115),(.fn 117),(.fn 118),(.fn 119),(.fn 121)]
theorem run_79 (n:Nat):CL E0 (n+40) 79 [] []=some (.d alg1,none):=by
 rw[CL_fn rfl (k79:E0.fn _=_) rfl];unfold alg1;simp -implicitDefEqProofs [f79]
theorem qD_one:qD (1:Rat)=raw false [1] []:=by
 have h1:qs (1:Rat)=false:=by unfold qs;rfl
 have h2:qn (1:Rat)=[1]:=by
  have:(1:Rat).num.natAbs=1:=rfl;unfold qn;rw[this];exact enc_one.2 rfl
 have h3:qd (1:Rat)=[]:=by
  have:(1:Rat).den=1:=rfl;unfold qd;rw[if_pos this]
 rw[qD,h1,h2,h3]
theorem ofI_one:ofI 1 1=1:=by rw[ofI_eq _ _ (by omega)];simp;grind
def oneW:D:=.a [.v (.bool false),.s 1 [.v (.int .u32 1)],.s 1 [],.v (.int .i64 0),.v (.bool false),.v (.int .u64 0),.s 6 [],.s 8 []]
theorem ca_number1:Ca E0 112 [.d (.v (.int .i64 1))] (.d oneW,none):=by
 obtain⟨N,t⟩:=(ca_make 1 1 (by omega) (by omega) (by omega)).get;rw[ofI_one,qD_one]at t;refine Ca.ofS (n:=N+80) ?_;rw[CL_fn rfl (k112:E0.fn _=_) rfl];unfold oneW;simp only[raw,LD,LL,List.map_cons,List.map_nil,Int.natCast_one]at t;simp -implicitDefEqProofs [f112,mkT,t]
theorem qz_one:qz (1:Rat)<=1:=by
 have h1:(1:Rat).num.natAbs=1:=rfl;have h2:(1:Rat).den=1:=rfl;unfold qz;rw[h1,h2,sz_one];omega
theorem ca_chk3 (w:W)(hw:w.OK):Ca E0 133 [.d w.d] (.d (.v (.bool (chkB 3 w))),none):=by
 have hc1:=ca_chk1 w hw;cases hw with
 | @mk s a b c i u p ps ha hb la lb hp lp h =>
  rw[chkB,if_pos rfl]at hc1;rw[chkB,if_neg (by omega),if_neg (by omega),if_pos rfl];have a79:=run_79;obtain⟨n1,t1⟩:=hc1.any;cases hv:validR s a b
  ·rw[hv]at t1;simp only[Bool.false_and]at t1 ⊢;replace t1:=t1 n1 (by omega);refine Ca.ofS (n:=n1+90) ?_;rw[CL_fn rfl (k133:E0.fn _=_) rfl];simp only[W.d,W.ds,PD,raw,LD,alg1]at*;generalize LL a=x1,LL b=x2,W.ds ps=x4,List.map Mo.d p=x3 at*;simp -implicitDefEqProofs [f133,a79,t1]
  ·rw[hv]at t1;simp only[Bool.true_and]at t1 ⊢;have hq:=raw_ratOf ha hb hv;have hz:=ratOf_sz ha hb 1000 la lb (by omega) hv;obtain⟨n2,t2⟩:=(ca_signq (ratOf s a b) (by omega)).any;obtain⟨n3,t3⟩:=(ca_compareq (ratOf s a b) 1 (by omega) (by have:=qz_one;omega)).any;obtain⟨n4,t4⟩:=ca_number1.any;rw[qD_one]at t3;rw[<-hq]at t2 t3;have e3:(!decide ((1:Rat)<ratOf s a b))=decide ((ratOf s a b-1).num.sign<=0):=by
    have:=(sign_sub (ratOf s a b) 1).2;rw[<-decide_not]
    congr 1
    rw[<-this];simp only[Int.not_lt]
   rw[e3];clear e3 hq hz;generalize (ratOf s a b-1).num.sign=g2,(ratOf s a b).num.sign=g1,((c==0) && !i&&(u==0)&&p.isEmpty&&ps.isEmpty)=r2 at*;replace t1:=t1 (n1+n2+n3+n4) (by omega);replace t2:=t2 (n1+n2+n3+n4) (by omega);replace t3:=t3 (n1+n2+n3+n4) (by omega);replace t4:=t4 (n1+n2+n3+n4) (by omega);generalize n1+n2+n3+n4=N at*;refine Ca.ofS (n:=N+90) ?_;rw[CL_fn rfl (k133:E0.fn _=_) rfl];simp only[W.d,W.ds,PD,raw,LD,alg1,oneW]at*;simp only[LL,List.map_cons,List.map_nil,Int.natCast_one]at t3;simp only[<-show ∀ l:List Nat,LL l=List.map (fun(x:Nat)=>D.v (Value.int IntKind.u32 (x:Int))) l from fun _=>rfl]at t3;generalize LL a=x1,LL b=x2,W.ds ps=x4,List.map Mo.d p=x3 at*;cases r2
   ·simp -implicitDefEqProofs [f133,a79,t1]
   ·by_cases h1:0<=g1
    ·by_cases h2:g2<=0
     ·simp -implicitDefEqProofs [f133,a79,t1,t2,t3,t4,h1,h2]
     ·simp -implicitDefEqProofs [f133,a79,t1,t2,t3,t4,h1,h2]
    ·simp -implicitDefEqProofs [f133,a79,t1,t2,h1]
theorem len_parts (ps:List W):(ps.isEmpty=true/\(W.ds ps).length=0)\/(ps.isEmpty=false/\∃ m,(W.ds ps).length=m+1):=by
 cases ps with
 | nil=>exact .inl ⟨rfl,rfl⟩
 | cons x r=>exact .inr ⟨rfl,(W.ds r).length,by simp[W.ds]⟩
theorem len_poly (p:List Mo):(p.isEmpty=true/\(p.map Mo.d).length=0)\/(p.isEmpty=false/\∃ m,(p.map Mo.d).length=m+1):=by
 cases p with
 | nil=>exact .inl ⟨rfl,rfl⟩
 | cons x r=>exact .inr ⟨rfl,r.length,by simp⟩
theorem pos_succ (m:Nat):(0:Int)<(m:Int)+1:=by omega
theorem ca_simple1 (w:W)(hw:w.OK):Ca E0 66 [.d (.v (.int .i64 1)),.d w.d] (.d (.v (.bool (chkB 1 w))),none):=by
 cases hw with
 | @mk s a b c i u p ps ha hb la lb hp lp h =>
  have hps:=len_parts ps;have hpo:=len_poly p;obtain⟨n1,t1⟩:=(ca_wsame s false a b [] [] (by omega) (by omega) (by simp) (by simp)).any;rw[q0_eq]at t1;rw[chkB,if_pos rfl];obtain⟨n2,t2⟩:=(ca_wvalid s a b (by omega) (by omega) ha hb).any;replace t1:=t1 (n1+n2) (by omega);replace t2:=t2 (n1+n2) (by omega);generalize n1+n2=N at*;refine Ca.ofS (n:=N+90) ?_;rw[CL_fn rfl (k66:E0.fn _=_) rfl];generalize validR s a b=r2,q0 s a b=nn at*;simp only[W.d,PD,raw,LD]at*;generalize LL a=x1,LL b=x2,W.ds ps=x4,List.map Mo.d p=x3,ps.isEmpty=be,p.isEmpty=bp at*;simp only[LL,List.map_nil]at t1;have e1:(c != 0) = !(c==0):=rfl;have e2:(u != 0) = !(u==0):=rfl;rcases hps with ⟨rfl,hps⟩|⟨rfl,m,hps⟩
  ·skip
   cases i
   ·cases h3:(c==0)
    ·rw[h3]at e1;simp -implicitDefEqProofs [f66,pos_succ,t1,hps,e1]
    ·rw[h3]at e1;cases h4:(u==0)
     ·rw[h4]at e2;simp -implicitDefEqProofs [f66,pos_succ,t1,hps,e1,e2]
     ·rw[h4]at e2;rcases hpo with ⟨rfl,hpo⟩|⟨rfl,m,hpo⟩
      ·skip
       simp -implicitDefEqProofs [f66,pos_succ,t1,hps,e1,e2,hpo,t2]
      ·simp -implicitDefEqProofs [f66,pos_succ,t1,hps,e1,e2,hpo]
   ·simp -implicitDefEqProofs [f66,pos_succ,t1,hps]
  ·simp -implicitDefEqProofs [f66,pos_succ,t1,hps]
theorem ca_simple2 (w:W)(hw:w.OK):Ca E0 66 [.d (.v (.int .i64 2)),.d w.d] (.d (.v (.bool (chkB 2 w))),none):=by
 cases hw with
 | @mk s a b c i u p ps ha hb la lb hp lp h =>
  have hps:=len_parts ps;have hpo:=len_poly p;obtain⟨n1,t1⟩:=(ca_wsame s false a b [] [] (by omega) (by omega) (by simp) (by simp)).any;rw[q0_eq]at t1;rw[chkB,if_neg (by omega),if_pos rfl];replace t1:=t1 (n1) (by omega);replace t1:=t1;refine Ca.ofS (n:=n1+90) ?_;rw[CL_fn rfl (k66:E0.fn _=_) rfl];generalize q0 s a b=nn at*;simp only[W.d,PD,raw,LD]at*;generalize LL a=x1,LL b=x2,W.ds ps=x4,List.map Mo.d p=x3,ps.isEmpty=be,p.isEmpty=bp at*;simp only[LL,List.map_nil]at t1;have e1:(c != 0) = !(c==0):=rfl;have e2:(u != 0) = !(u==0):=rfl;rcases hps with ⟨rfl,hps⟩|⟨rfl,m,hps⟩
  ·skip
   cases nn
   ·simp -implicitDefEqProofs [f66,pos_succ,t1,hps]
   ·skip
    cases h4:(u==0)
    ·rw[h4]at e2;simp -implicitDefEqProofs [f66,pos_succ,t1,hps,e2]
    ·rw[h4]at e2;rcases hpo with ⟨rfl,hpo⟩|⟨rfl,m,hpo⟩
     ·skip
      by_cases h1:0<=c
      ·by_cases h2:c<=1099511627776
       ·cases i
        ·simp -implicitDefEqProofs [f66,pos_succ,t1,hps,e2,hpo,h1,h2]
        ·cases h3:(c==0)
         ·rw[h3]at e1;simp -implicitDefEqProofs [f66,pos_succ,t1,hps,e2,hpo,h1,h2,e1]
         ·rw[h3]at e1;simp -implicitDefEqProofs [f66,pos_succ,t1,hps,e2,hpo,h1,h2,e1]
       ·simp -implicitDefEqProofs [f66,pos_succ,t1,hps,e2,hpo,h1,h2]
      ·simp -implicitDefEqProofs [f66,pos_succ,t1,hps,e2,hpo,h1]
     ·simp -implicitDefEqProofs [f66,pos_succ,t1,hps,e2,hpo]
  ·simp -implicitDefEqProofs [f66,pos_succ,t1,hps]
theorem ca_simple4 (w:W)(hw:w.OK):Ca E0 66 [.d (.v (.int .i64 4)),.d w.d] (.d (.v (.bool (chkB 4 w))),none):=by
 cases hw with
 | @mk s a b c i u p ps ha hb la lb hp lp h =>
  have hps:=len_parts ps;have hpo:=len_poly p;obtain⟨n1,t1⟩:=(ca_wsame s false a b [] [] (by omega) (by omega) (by simp) (by simp)).any;rw[q0_eq]at t1;rw[chkB,if_neg (by omega),if_neg (by omega),if_neg (by omega),if_pos rfl];replace t1:=t1 (n1) (by omega);replace t1:=t1;refine Ca.ofS (n:=n1+90) ?_;rw[CL_fn rfl (k66:E0.fn _=_) rfl];generalize q0 s a b=nn at*;simp only[W.d,PD,raw,LD]at*;generalize LL a=x1,LL b=x2,W.ds ps=x4,List.map Mo.d p=x3,ps.isEmpty=be,p.isEmpty=bp at*;simp only[LL,List.map_nil]at t1;have e1:(c != 0) = !(c==0):=rfl;have e2:(u != 0) = !(u==0):=rfl;rcases hps with ⟨rfl,hps⟩|⟨rfl,m,hps⟩
  ·skip
   cases nn
   ·simp -implicitDefEqProofs [f66,pos_succ,t1,hps]
   ·skip
    cases i
    ·cases h3:(c==0)
     ·rw[h3]at e1;simp -implicitDefEqProofs [f66,pos_succ,t1,hps,e1]
     ·rw[h3]at e1;rcases hpo with ⟨rfl,hpo⟩|⟨rfl,m,hpo⟩
      ·skip
       simp -implicitDefEqProofs [f66,pos_succ,t1,hps,e1,hpo]
      ·simp -implicitDefEqProofs [f66,pos_succ,t1,hps,e1,hpo]
    ·simp -implicitDefEqProofs [f66,pos_succ,t1,hps]
  ·simp -implicitDefEqProofs [f66,pos_succ,t1,hps]
theorem ca_simple5 (w:W)(hw:w.OK):Ca E0 66 [.d (.v (.int .i64 5)),.d w.d] (.d (.v (.bool (chkB 5 w))),none):=by
 cases hw with
 | @mk s a b c i u p ps ha hb la lb hp lp h =>
  have hps:=len_parts ps;have hpo:=len_poly p;obtain⟨n1,t1⟩:=(ca_wsame s false a b [] [] (by omega) (by omega) (by simp) (by simp)).any;rw[q0_eq]at t1;rw[chkB,if_neg (by omega),if_neg (by omega),if_neg (by omega),if_neg (by omega)];obtain⟨n2,t2⟩:=(ca_qvalid p hp).any;replace t1:=t1 (n1+n2) (by omega);replace t2:=t2 (n1+n2) (by omega);generalize n1+n2=N at*;refine Ca.ofS (n:=N+90) ?_;rw[CL_fn rfl (k66:E0.fn _=_) rfl];generalize pvB none p=r2,q0 s a b=nn at*;simp only[W.d,PD,raw,LD]at*;generalize LL a=x1,LL b=x2,W.ds ps=x4,List.map Mo.d p=x3,ps.isEmpty=be,p.isEmpty=bp at*;simp only[LL,List.map_nil]at t1;have e1:(c != 0) = !(c==0):=rfl;have e2:(u != 0) = !(u==0):=rfl;rcases hps with ⟨rfl,hps⟩|⟨rfl,m,hps⟩
  ·skip
   cases nn
   ·simp -implicitDefEqProofs [f66,pos_succ,t1,hps]
   ·skip
    cases i
    ·cases h3:(c==0)
     ·rw[h3]at e1;simp -implicitDefEqProofs [f66,pos_succ,t1,hps,e1]
     ·rw[h3]at e1;cases h4:(u==0)
      ·rw[h4]at e2;simp -implicitDefEqProofs [f66,pos_succ,t1,hps,e1,e2]
      ·rw[h4]at e2;simp -implicitDefEqProofs [f66,pos_succ,t1,hps,e1,e2,t2]
    ·simp -implicitDefEqProofs [f66,pos_succ,t1,hps]
  ·simp -implicitDefEqProofs [f66,pos_succ,t1,hps]
theorem ca_simple3 (w:W)(hw:w.OK):Ca E0 66 [.d (.v (.int .i64 3)),.d w.d] (.d (.v (.bool (chkB 3 w))),none):=by
 cases hw with
 | @mk s a b c i u p ps ha hb la lb hp lp h =>
  have hps:=len_parts ps;have hpo:=len_poly p;obtain⟨n1,t1⟩:=(ca_wsame s false a b [] [] (by omega) (by omega) (by simp) (by simp)).any;rw[q0_eq]at t1;obtain⟨n2,t2⟩:=(ca_wvalid s a b (by omega) (by omega) ha hb).any;rw[chkB,if_neg (by omega),if_neg (by omega),if_pos rfl];obtain⟨n3,t3⟩:=(ca_wof 1 1 (by omega) (by omega) (by omega)).any;rw[ofI_one,qD_one]at t3;have hx:∃ n4,validR s a b=true->(∀ n,n4<=n->∀ k,CL E0 (n+k) 98 [.d (raw s a b)] []=some (.d (.v (.int .i64 (ratOf s a b).num.sign)),none)) /\
    (∀ n,n4<=n->∀ k,CL E0 (n+k) 55 [.d (raw false [1] []),.d (raw s a b)] []=some (.d (.v (.bool (decide ((1:Rat)<ratOf s a b)))),none)):=by
   cases hv:validR s a b
   ·exact⟨0,fun h=>by cases h⟩
   ·have hq:=raw_ratOf ha hb hv;have hz:=ratOf_sz ha hb 1000 la lb (by omega) hv;obtain⟨m1,s1⟩:=(ca_wsign (ratOf s a b) (by omega)).any;obtain⟨m2,s2⟩:=(ca_wless 1 (ratOf s a b) (by have:=qz_one;omega) (by omega)).any;rw[<-hq]at s1 s2;rw[qD_one]at s2;exact⟨m1+m2,fun _=>⟨fun n hn k=>s1 n (by omega) k,fun n hn k=>s2 n (by omega) k⟩⟩
  obtain⟨n4,hx⟩:=hx;replace t1:=t1 (n1+n2+n3+n4) (by omega);replace t2:=t2 (n1+n2+n3+n4) (by omega);replace t3:=t3 (n1+n2+n3+n4) (by omega);have hx':validR s a b=true->(∀ k,CL E0 (n1+n2+n3+n4+k) 98 [.d (raw s a b)] []=some (.d (.v (.int .i64 (ratOf s a b).num.sign)),none)) /\
    (∀ k,CL E0 (n1+n2+n3+n4+k) 55 [.d (raw false [1] []),.d (raw s a b)] []=some (.d (.v (.bool (decide ((1:Rat)<ratOf s a b)))),none)):=fun hv=>⟨(hx hv).1 _ (by omega),(hx hv).2 _ (by omega)⟩
  clear hx;generalize n1+n2+n3+n4=N at*;refine Ca.ofS (n:=N+90) ?_;rw[CL_fn rfl (k66:E0.fn _=_) rfl];generalize validR s a b=r2,q0 s a b=nn,(ratOf s a b).num.sign=g1 at*;generalize decide ((1:Rat)<ratOf s a b)=g2 at*;simp only[W.d,PD,raw,LD]at*;have e11:LL [1]=[D.v (.int .u32 1)]:=rfl;have e12:LL []=[]:=rfl;simp only[e11,e12]at t1 t3 hx';generalize LL a=x1,LL b=x2,W.ds ps=x4,List.map Mo.d p=x3,ps.isEmpty=be,p.isEmpty=bp at*;have e1:(c != 0) = !(c==0):=rfl;have e2:(u != 0) = !(u==0):=rfl;rcases hps with ⟨rfl,hps⟩|⟨rfl,m,hps⟩
  ·cases i
   ·cases h3:(c==0)
    ·rw[h3]at e1;simp -implicitDefEqProofs [f66,pos_succ,t1,hps,e1]
    ·rw[h3]at e1;cases h4:(u==0)
     ·rw[h4]at e2;simp -implicitDefEqProofs [f66,pos_succ,t1,hps,e1,e2]
     ·rw[h4]at e2;rcases hpo with ⟨rfl,hpo⟩|⟨rfl,m,hpo⟩
      ·cases r2
       ·simp -implicitDefEqProofs [f66,pos_succ,t1,hps,e1,e2,hpo,t2]
       ·obtain⟨hx1,hx2⟩:=hx' rfl
        by_cases hg:0<=g1
        ·cases g2
         ·simp -implicitDefEqProofs [f66,pos_succ,t1,hps,e1,e2,hpo,t2,t3,hx1,hx2,hg]
         ·simp -implicitDefEqProofs [f66,pos_succ,t1,hps,e1,e2,hpo,t2,t3,hx1,hx2,hg]
        ·simp -implicitDefEqProofs [f66,pos_succ,t1,hps,e1,e2,hpo,t2,hx1,hg]
      ·simp -implicitDefEqProofs [f66,pos_succ,t1,hps,e1,e2,hpo]
   ·simp -implicitDefEqProofs [f66,pos_succ,t1,hps]
  ·simp -implicitDefEqProofs [f66,pos_succ,t1,hps]
theorem ca_simple (k:Int)(hk:single k=true)(w:W)(hw:w.OK):Ca E0 66 [.d (.v (.int .i64 k)),.d w.d] (.d (.v (.bool (chkB k w))),none):=by
 have:k=1\/k=2\/k=3\/k=4\/k=5:=by
  simp only[single,Bool.and_eq_true,decide_eq_true_eq]at hk;omega
 rcases this with rfl|rfl|rfl|rfl|rfl
 ·exact ca_simple1 w hw
 ·exact ca_simple2 w hw
 ·exact ca_simple3 w hw
 ·exact ca_simple4 w hw
 ·exact ca_simple5 w hw
def kindV5:FV:=.d (.a [(.fn 149),(.fn 151),(.fn 152),(.fn 154),(.fn 156),(.fn 158),(.fn 118),(.fn 160),(.fn 163)])
def kindV1:FV:=.d alg1
def kindL2:List FV:=[(.d (.fn 122)),(.d (.fn 123)),(.d (.fn 124)),(.d (.fn 125)),(.d (.fn 127)),(.f 195 [] [(.r (.old 3) 0)]),(.d (.fn 126)),(.d (.fn 128)),(.f 131 [] [(.r (.old 2) 0)])]
def kindV2:FV:=.a kindL2
def kindB2:List AObj:=[.box kindL2,.box kindL2,.box kindL2,.box [(.d (.fn 124))]]
def kindL3:List FV:=[(.d (.fn 133)),(.d (.fn 110)),(.d (.fn 111)),(.f 137 [] [(.r (.old 2) 0)]),(.d (.fn 115)),(.f 195 [] [(.r (.old 3) 0)]),(.d (.fn 136)),(.d (.fn 119)),(.f 138 [] [(.r (.old 2) 0)])]
def kindV3:FV:=.a kindL3
def kindB3:List AObj:=[.box kindL3,.box kindL3,.box kindL3,.box [(.d (.fn 111))]]
def kindL4:List FV:=[(.d (.fn 139)),(.d (.fn 140)),(.d (.fn 141)),(.d (.fn 142)),(.d (.fn 143)),(.f 195 [] [(.r (.old 3) 0)]),(.d (.fn 118)),(.d (.fn 144)),(.f 147 [] [(.r (.old 2) 0)])]
def kindV4:FV:=.a kindL4
def kindB4:List AObj:=[.box kindL4,.box kindL4,.box kindL4,.box [(.d (.fn 141))]]
theorem cl_kind1:callN E0 60 42 [.d (.v (.int .i64 1))] []=some (kindV1,none):=by kernel_rfl
theorem cl_kind5:callN E0 60 42 [.d (.v (.int .i64 5))] []=some (kindV5,none):=by kernel_rfl
theorem cl_kind2:callN E0 60 42 [.d (.v (.int .i64 2))] []=some (kindV2,some kindB2):=by kernel_rfl
theorem cl_kind3:callN E0 60 42 [.d (.v (.int .i64 3))] []=some (kindV3,some kindB3):=by kernel_rfl
theorem cl_kind4:callN E0 60 42 [.d (.v (.int .i64 4))] []=some (kindV4,some kindB4):=by kernel_rfl
theorem CL_of {N g:Nat}{args:List FV}{r:FV × Option (List AObj)}(h:callN E0 N g args []=some r)(m:Nat)(hm:N<=m):CL E0 m g args []=some r:=by rw[CL_eq];exact call_mono h hm
def chkF (k:Int):Nat:=if k=1 then 108 else if k=2 then 122 else if k=3 then 133 else if k=4 then 139 else 149
theorem single_five {k:Int}(hk:single k=true):k=1\/k=2\/k=3\/k=4\/k=5:=by
 simp only[single,Bool.and_eq_true,decide_eq_true_eq]at hk;omega
theorem ca_chk (k:Int)(hk:single k=true)(w:W)(hw:w.OK):Ca E0 (chkF k) [.d w.d] (.d (.v (.bool (chkB k w))),none):=by
 rcases single_five hk with rfl|rfl|rfl|rfl|rfl
 ·exact ca_chk1 w hw
 ·exact ca_chk2 w hw
 ·exact ca_chk3 w hw
 ·exact ca_chk4 w hw
 ·exact ca_chk5 w hw
def W.ps:W->List W
 | .mk _ _ _ _ _ _ _ ps=>ps
def W.bare:W->Bool
 | .mk s a b c i u p _=>q0 s a b&&(c==0) && !i&&(u==0)&&p.isEmpty
def allB:List Int->List W->Bool
 | k::r,w::s=>chkB k w&&allB r s
 | _,_=>true
def checkB (k:Int)(ps:List Int)(w:W):Bool:=validRg k ps&&(if k≠6 then chkB k w else(w.ps.length==ps.length)&&w.bare&&allB ps w.ps)
mutual
theorem W.eq_refl:∀ w:W,w.eq w=true
 | .mk s a b c i u p ps=>by
  simp only[W.eq,eqL_refl moEq_refl,W.eqs_refl ps];simp
theorem W.eqs_refl:∀ l:List W,W.eqs l l=true
 | []=>rfl
 | w::r=>by simp[W.eqs,W.eq_refl w,W.eqs_refl r]
end
theorem eq_bare (s:Bool)(a b:List Nat)(c:Int)(i:Bool)(u:Int)(p:List Mo)(ps:List W):W.eq (.mk s a b c i u p ps) (.mk false [] [] 0 false 0 [] ps)=W.bare (.mk s a b c i u p ps):=by
 simp only[W.eq,eqL_nil,W.eqs_refl,q0_eq,W.bare];cases i<;>simp
theorem eq_bare2 (s:Bool)(a b:List Nat)(c:Int)(i:Bool)(u:Int)(p:List Mo)(ps:List W):W.eq (.mk false [] [] 0 false 0 [] ps) (.mk s a b c i u p ps)=W.bare (.mk s a b c i u p ps):=by
 have e1:(false==s&&decide ([]=a)&&decide ([]=b))=q0 s a b:=by
  unfold q0;have h1:decide (([]:List Nat)=a)=decide (a=[]):=by congr 1;exact propext ⟨fun h=>h.symm,fun h=>h.symm⟩
  have h2:decide (([]:List Nat)=b)=decide (b=[]):=by congr 1;exact propext ⟨fun h=>h.symm,fun h=>h.symm⟩
  rw[h1,h2];cases s<;>rfl
 have e2:∀ l:List Mo,eqL Mo.eq [] l=l.isEmpty:=by intro l;cases l<;>rfl
 have e3:∀ x:Int,((0:Int)==x)=(x==0):=by
  intro x
  by_cases h:x=0
  ·rw[h]
  ·rw[beq_eq_false_iff_ne.2 h,beq_eq_false_iff_ne.2 (Ne.symm h)]
 simp only[W.eq,e1,e2,e3,W.eqs_refl,W.bare];cases i<;>simp
def ckB:FStmt:=f18.body.r.r.r.r.l.r.bl.lp
def ckS (rb:AObj)(wb:List FV)(ks:List Int)(j:Nat)(bs:List AObj)(t:FV):St:=(st0 [.u,.u,.u,.r (.loc 1) 0,.u,.u,.u,.u,.u,.u,.d (.s 1 (LK .i64 ks)),.d (.v (.int .i64 ks.length)),.d (.v (.int .i64 j)),t,.u] (rb::.box wb::bs))
def ckF (rb:AObj)(wb:List FV)(bs:List AObj):St:=(st0 [.u,.u,.u,.u,.d (.v (.bool false)),.u,.u,.u,.u,.u,.u,.u,.u,.u,.u] (rb::.box wb::bs))
theorem ck_round (rb:AObj)(p1 p2 p3 p4 p5 p6 p7:D)(ws:List W)(ks:List Int)(j:Nat)(bs:List AObj)(k:Int)(w:W)(hl:ks.length<=1000000)(hk:ks[j]?=some k)(hw:ws[j]?=some w)(hs:single k=true)(ok:w.OK) :
  ∃ bs',Ex E0 ckB (ckS rb [.d p1,.d p2,.d p3,.d p4,.d p5,.d p6,.d p7,.d (.s 8 (W.ds ws))] ks j bs .u)
   (if chkB k w then(.norm,ckS rb [.d p1,.d p2,.d p3,.d p4,.d p5,.d p6,.d p7,.d (.s 8 (W.ds ws))] ks (j+1) bs' .u) else(.ret,ckF rb [.d p1,.d p2,.d p3,.d p4,.d p5,.d p6,.d p7,.d (.s 8 (W.ds ws))] bs')):=by
 have hj:=(List.getElem?_eq_some_iff.1 hk).1;have hj2:=(List.getElem?_eq_some_iff.1 hw).1;obtain⟨n1,t1⟩:=(ca_chk k hs w ok).any;replace t1:=t1 (n1+60) (by omega);have n1':(LK .i64 ks).length=ks.length:=by simp[LK]
 have n2':(W.ds ws).length=ws.length:=by simp[W.ds_map]
 have e1:(LK .i64 ks)[j]?=some (.v (.int .i64 k)):=by simp[LK,hk]
 have e2:(W.ds ws)[j]?=some w.d:=by simp[W.ds_map,hw]
 have hinc:wrapS .i64 ((j:Int)+1)=(j:Int)+1:=wrap_i64 (by omega);have hk1:((j+1:Nat):Int)=(j:Int)+1:=by omega
 have hk0:(0:Int)<=(j:Int):=by omega
 obtain⟨vv,hvv⟩:∃ vv,chkB k w=vv:=⟨_,rfl⟩
 rw[hvv]at t1 ⊢;obtain⟨sx,ax,bx,cx,ix,ux,px,psx⟩:=w;simp only[W.d,PD,LD]at*;generalize LL ax=x1,LL bx=x2,List.map Mo.d px=x5,W.ds psx=x7 at*;unfold ckS ckF;rw[hk1];generalize W.ds ws=es2 at*;have i2:=idx e2;have five:=single_five hs;clear hs ok hvv hw;rcases five with rfl|rfl|rfl|rfl|rfl
 ·have t2:=fun m=>CL_of cl_kind1 (n1+60+m) (by omega)
  have hF:chkF 1=108:=rfl;rw[hF]at t1;clear hk;generalize LK .i64 ks=es1 at*;have i1:=idx e1;generalize n1+60=N at*;refine⟨bs,Ex.of (n:=N+300) ?_⟩;simp only[kindV1,alg1]at t2 ⊢;cases vv
  ·simp -implicitDefEqProofs [ckB,f18,hj,hj2,hk0,e1,e2,i1,i2,n1',n2',t1,t2]
  ·simp -implicitDefEqProofs [ckB,f18,hj,hj2,hk0,e1,e2,i1,i2,n1',n2',t1,t2,hinc]
 ·have t2:=fun m=>CL_of cl_kind2 (n1+60+m) (by omega)
  have hF:chkF 2=122:=rfl;rw[hF]at t1;clear hk;generalize LK .i64 ks=es1 at*;have i1:=idx e1;generalize n1+60=N at*;refine⟨bs++kindB2.map (AObj.shift (bs.length+2)),Ex.of (n:=N+300) ?_⟩;simp only[kindV2,kindL2,kindB2]at t2 ⊢;cases vv
  ·simp -implicitDefEqProofs [ckB,f18,hj,hj2,hk0,e1,e2,i1,i2,n1',n2',t1,t2]
  ·simp -implicitDefEqProofs [ckB,f18,hj,hj2,hk0,e1,e2,i1,i2,n1',n2',t1,t2,hinc]
 ·have t2:=fun m=>CL_of cl_kind3 (n1+60+m) (by omega)
  have hF:chkF 3=133:=rfl;rw[hF]at t1;clear hk;generalize LK .i64 ks=es1 at*;have i1:=idx e1;generalize n1+60=N at*;refine⟨bs++kindB3.map (AObj.shift (bs.length+2)),Ex.of (n:=N+300) ?_⟩;simp only[kindV3,kindL3,kindB3]at t2 ⊢;cases vv
  ·simp -implicitDefEqProofs [ckB,f18,hj,hj2,hk0,e1,e2,i1,i2,n1',n2',t1,t2]
  ·simp -implicitDefEqProofs [ckB,f18,hj,hj2,hk0,e1,e2,i1,i2,n1',n2',t1,t2,hinc]
 ·have t2:=fun m=>CL_of cl_kind4 (n1+60+m) (by omega)
  have hF:chkF 4=139:=rfl;rw[hF]at t1;clear hk;generalize LK .i64 ks=es1 at*;have i1:=idx e1;generalize n1+60=N at*;refine⟨bs++kindB4.map (AObj.shift (bs.length+2)),Ex.of (n:=N+300) ?_⟩;simp only[kindV4,kindL4,kindB4]at t2 ⊢;cases vv
  ·simp -implicitDefEqProofs [ckB,f18,hj,hj2,hk0,e1,e2,i1,i2,n1',n2',t1,t2]
  ·simp -implicitDefEqProofs [ckB,f18,hj,hj2,hk0,e1,e2,i1,i2,n1',n2',t1,t2,hinc]
 ·have t2:=fun m=>CL_of cl_kind5 (n1+60+m) (by omega)
  have hF:chkF 5=149:=rfl;rw[hF]at t1;clear hk;generalize LK .i64 ks=es1 at*;have i1:=idx e1;generalize n1+60=N at*;refine⟨bs,Ex.of (n:=N+300) ?_⟩;simp only[kindV5]at t2 ⊢;cases vv
  ·simp -implicitDefEqProofs [ckB,f18,hj,hj2,hk0,e1,e2,i1,i2,n1',n2',t1,t2]
  ·simp -implicitDefEqProofs [ckB,f18,hj,hj2,hk0,e1,e2,i1,i2,n1',n2',t1,t2,hinc]
theorem ck_loop (rb:AObj)(p1 p2 p3 p4 p5 p6 p7:D)(ws:List W)(ks:List Int)(hl:ks.length<=1000000)(he:ws.length=ks.length)(hs:ks.all single=true)(ok:∀ w ∈ ws,w.OK) :
  ∃ r,Ex E0 (.loop ckB) (ckS rb [.d p1,.d p2,.d p3,.d p4,.d p5,.d p6,.d p7,.d (.s 8 (W.ds ws))] ks 0 [] .u) r /\
   ((allB ks ws=true/\∃ bs,r=(.exit 0,ckS rb [.d p1,.d p2,.d p3,.d p4,.d p5,.d p6,.d p7,.d (.s 8 (W.ds ws))] ks ks.length bs (.d (.v (.bool false))))) \/
    (allB ks ws=false/\∃ bs,r=(.ret,ckF rb [.d p1,.d p2,.d p3,.d p4,.d p5,.d p6,.d p7,.d (.s 8 (W.ds ws))] bs))):=by
 refine Ex.inv (S:=fun t:Nat × List AObj=>ckS rb [.d p1,.d p2,.d p3,.d p4,.d p5,.d p6,.d p7,.d (.s 8 (W.ds ws))] ks t.1 t.2 .u) (fun t=>ks.length-t.1) (fun t=>t.1<=ks.length/\allB ks ws=allB (ks.drop t.1) (ws.drop t.1)) _ ?_ (0,[]) ⟨by simp,by simp⟩;rintro⟨j,bs⟩ ⟨q1,q2⟩;simp only at q1 q2
 by_cases hj:j<ks.length
 ·have hk:ks[j]?=some (ks[j]'hj):=List.getElem?_eq_getElem hj;have hw:ws[j]?=some (ws[j]'(by omega)):=List.getElem?_eq_getElem (by omega);have d1:ks.drop j=ks[j]'hj::ks.drop (j+1):=List.drop_eq_getElem_cons hj;have d2:ws.drop j=ws[j]'(by omega)::ws.drop (j+1):=List.drop_eq_getElem_cons (by omega);obtain⟨bs',hr⟩:=ck_round rb p1 p2 p3 p4 p5 p6 p7 ws ks j bs _ _ hl hk hw (List.all_eq_true.1 hs _ (List.getElem_mem hj)) (ok _ (List.getElem_mem (by omega)));rw[d1,d2]at q2;simp only[allB]at q2;cases hv:chkB (ks[j]'hj) (ws[j]'(by omega))
  ·rw[hv]at hr q2;exact .inr ⟨_,hr,by simp,.inr ⟨by simpa using q2,bs',rfl⟩⟩
  ·rw[hv]at hr q2;exact .inl ⟨(j+1,bs'),hr,by simp only;omega,by simp only;omega,by simpa using q2⟩
 ·have hje:j=ks.length:=by omega
  subst hje;rw[List.drop_length]at q2;refine .inr ⟨_,Ex.of (n:=60) ?_,?_,.inl ⟨by rw[q2];rfl,bs,rfl⟩⟩
  ·unfold ckS;generalize LK .i64 ks=l1,W.ds ws=l2,ks.length=m at*;simp -implicitDefEqProofs [ckB,f18]
  ·simp
theorem ca_CheckP (ps:List Int)(w:W)(hl:ps.length<=1000000)(hw:w.OK)(hvr:validRg 6 ps=true)(hv:∀ n,CL E0 (n+500) 31 [.d (rgD 6 ps)] []=some (.d (.v (.bool true)),none)) :
  Ca E0 18 [.d (rgD 6 ps),.d w.d] (.d (.v (.bool ((w.ps.length==ps.length)&&w.bare&&allB ps w.ps))),none):=by
 have hs:ps.all single=true:=by
  unfold validRg at hvr;rw[if_neg (by simp)]at hvr;simp only[Bool.and_eq_true]at hvr;exact hvr.2
 have ok:=hw;cases hw with
 | @mk s a b c i u p ws ha hb la lb hp lp hok =>
  simp only[W.ps];have n1:(LK .i64 ps).length=ps.length:=by simp[LK]
  have n2:(W.ds ws).length=ws.length:=by simp[W.ds_map]
  obtain⟨N,t⟩:=(ca_Equal _ ok _ (.mk (s:=false) (a:=[]) (b:=[]) (c:=0) (i:=false) (u:=0) (p:=[]) lim_nil lim_nil (by simp) (by simp) po_nil lp hok)).any;rw[eq_bare]at t;generalize hbare:W.bare (.mk s a b c i u p ws)=bare at*
  by_cases hlen:ws.length=ps.length
  ·have hl1:(ws.length==ps.length)=true:=by simpa using hlen
   have hne:((ws.length:Int) != (ps.length:Int))=false:=by simp;omega
   rw[hl1,Bool.true_and];cases hbb:bare
   ·rw[hbb]at t;rw[Bool.false_and];replace t:=t N (by omega);refine Ca.ofS (n:=N+700) ?_;rw[CL_fn rfl (k18:E0.fn _=_) rfl];have hv':=fun n=>hv (N+n)
    simp only[W.d,W.ds,PD,LD,rgD]at*;generalize LL a=x1,LL b=x2 at*;simp only[LL,List.map_nil]at*;generalize List.map Mo.d p=x5,W.ds ws=x7,LK .i64 ps=l1 at*;simp -implicitDefEqProofs [f18,hv,t,n1,n2,hne]
   ·rw[hbb]at t;rw[Bool.true_and];obtain⟨r,hr,hq⟩:=ck_loop (.box [.d (.v (.int .i64 6)),.d (.s 1 (LK .i64 ps))]) (.v (.bool s)) (LD a) (LD b) (.v (.int .i64 c)) (.v (.bool i)) (.v (.int .u64 u)) (PD p) ws ps hl hlen hs hok;replace t:=t N (by omega);have hA:Ex E0 f18.body.l (st0 [.d (rgD 6 ps),.d (W.mk s a b c i u p ws).d,.u,.u,.u,.u,.u,.u,.u,.u,.u,.u,.u,.u,.u] [])
      (.norm,(st0 [.u,.u,.r (.loc 0) 0,.r (.loc 1) 0,.u,.u,.u,.u,.u,.u,.u,.u,.u,.u,.u] [.box [.d (.v (.int .i64 6)),.d (.s 1 (LK .i64 ps))],.box [.d (.v (.bool s)),.d (LD a),.d (LD b),.d (.v (.int .i64 c)),.d (.v (.bool i)),.d (.v (.int .u64 u)),.d (PD p),.d (.s 8 (W.ds ws))]])):=by
     refine Ex.of (n:=40) ?_;simp only[W.d,PD,LD,rgD];generalize LL a=x1,LL b=x2,List.map Mo.d p=x5,W.ds ws=x7,LK .i64 ps=l1 at*;simp -implicitDefEqProofs [f18]
    have hB:Ex E0 f18.body.r.l (st0 [.u,.u,.r (.loc 0) 0,.r (.loc 1) 0,.u,.u,.u,.u,.u,.u,.u,.u,.u,.u,.u] [.box [.d (.v (.int .i64 6)),.d (.s 1 (LK .i64 ps))],.box [.d (.v (.bool s)),.d (LD a),.d (LD b),.d (.v (.int .i64 c)),.d (.v (.bool i)),.d (.v (.int .u64 u)),.d (PD p),.d (.s 8 (W.ds ws))]])
      (.norm,(st0 [.u,.u,.r (.loc 0) 0,.r (.loc 1) 0,.u,.u,.u,.d (.v (.bool false)),.u,.u,.u,.u,.u,.u,.u] [.box [.d (.v (.int .i64 6)),.d (.s 1 (LK .i64 ps))],.box [.d (.v (.bool s)),.d (LD a),.d (LD b),.d (.v (.int .i64 c)),.d (.v (.bool i)),.d (.v (.int .u64 u)),.d (PD p),.d (.s 8 (W.ds ws))]])):=by
     clear hr hq hA;refine Ex.of (n:=600) ?_;simp only[PD,LD,rgD]at hv ⊢;generalize LL a=x1,LL b=x2,List.map Mo.d p=x5,W.ds ws=x7,LK .i64 ps=l1 at*;simp -implicitDefEqProofs [f18,hv]
    have hC:Ex E0 f18.body.r.r.l (st0 [.u,.u,.r (.loc 0) 0,.r (.loc 1) 0,.u,.u,.u,.d (.v (.bool false)),.u,.u,.u,.u,.u,.u,.u] [.box [.d (.v (.int .i64 6)),.d (.s 1 (LK .i64 ps))],.box [.d (.v (.bool s)),.d (LD a),.d (LD b),.d (.v (.int .i64 c)),.d (.v (.bool i)),.d (.v (.int .u64 u)),.d (PD p),.d (.s 8 (W.ds ws))]])
      (.norm,(st0 [.u,.u,.r (.loc 0) 0,.r (.loc 1) 0,.u,.u,.u,.u,.d (.v (.bool false)),.u,.u,.u,.u,.u,.u] [.box [.d (.v (.int .i64 6)),.d (.s 1 (LK .i64 ps))],.box [.d (.v (.bool s)),.d (LD a),.d (LD b),.d (.v (.int .i64 c)),.d (.v (.bool i)),.d (.v (.int .u64 u)),.d (PD p),.d (.s 8 (W.ds ws))]])):=by
     refine Ex.of (n:=60) ?_;simp only[PD,LD];generalize LL a=x1,LL b=x2,List.map Mo.d p=x5,W.ds ws=x7,LK .i64 ps=l1 at*;simp -implicitDefEqProofs [f18]
    have hD:Ex E0 f18.body.r.r.r.l (st0 [.u,.u,.r (.loc 0) 0,.r (.loc 1) 0,.u,.u,.u,.u,.d (.v (.bool false)),.u,.u,.u,.u,.u,.u] [.box [.d (.v (.int .i64 6)),.d (.s 1 (LK .i64 ps))],.box [.d (.v (.bool s)),.d (LD a),.d (LD b),.d (.v (.int .i64 c)),.d (.v (.bool i)),.d (.v (.int .u64 u)),.d (PD p),.d (.s 8 (W.ds ws))]])
      (.norm,(st0 [.u,.u,.r (.loc 0) 0,.r (.loc 1) 0,.u,.u,.u,.u,.u,.d (.v (.bool false)),.u,.u,.u,.u,.u] [.box [.d (.v (.int .i64 6)),.d (.s 1 (LK .i64 ps))],.box [.d (.v (.bool s)),.d (LD a),.d (LD b),.d (.v (.int .i64 c)),.d (.v (.bool i)),.d (.v (.int .u64 u)),.d (PD p),.d (.s 8 (W.ds ws))]])):=by
     clear hr hq hA hB hC hv;refine Ex.of (n:=N+90) ?_;simp only[W.d,PD,LD,W.ds]at t ⊢;generalize LL a=x1,LL b=x2 at*;simp only[LL,List.map_nil]at t;generalize List.map Mo.d p=x5,W.ds ws=x7,LK .i64 ps=l1 at*;simp -implicitDefEqProofs [f18,t,n1,n2,hne]
    have hE:Ex E0 f18.body.r.r.r.r.l.l (st0 [.u,.u,.r (.loc 0) 0,.r (.loc 1) 0,.u,.u,.u,.u,.u,.d (.v (.bool false)),.u,.u,.u,.u,.u] [.box [.d (.v (.int .i64 6)),.d (.s 1 (LK .i64 ps))],.box [.d (.v (.bool s)),.d (LD a),.d (LD b),.d (.v (.int .i64 c)),.d (.v (.bool i)),.d (.v (.int .u64 u)),.d (PD p),.d (.s 8 (W.ds ws))]])
      (.norm,ckS (.box [.d (.v (.int .i64 6)),.d (.s 1 (LK .i64 ps))]) [.d (.v (.bool s)),.d (LD a),.d (LD b),.d (.v (.int .i64 c)),.d (.v (.bool i)),.d (.v (.int .u64 u)),.d (PD p),.d (.s 8 (W.ds ws))] ps 0 [] .u):=by
     refine Ex.of (n:=60) ?_;unfold ckS;simp only[PD,LD];generalize LL a=x1,LL b=x2,List.map Mo.d p=x5,W.ds ws=x7,LK .i64 ps=l1 at*;simp -implicitDefEqProofs [f18,n1]
    rcases hq with ⟨hall,bs,rfl⟩|⟨hall,bs,rfl⟩
    ·rw[hall];refine Ca.body (o:=.ret) (st1:=(st0 [.u,.u,.u,.u,.d (.v (.bool true)),.u,.u,.u,.u,.u,.u,.u,.u,.u,.u] (.box [.d (.v (.int .i64 6)),.d (.s 1 (LK .i64 ps))]::.box [.d (.v (.bool s)),.d (LD a),.d (LD b),.d (.v (.int .i64 c)),.d (.v (.bool i)),.d (.v (.int .u64 u)),.d (PD p),.d (.s 8 (W.ds ws))]::bs))) rfl (k18:E0.fn _=_) rfl ?_ (by intro id h;cases h) ?_
     ·show Ex E0 (.seq f18.body.l (.seq f18.body.r.l (.seq f18.body.r.r.l (.seq f18.body.r.r.r.l (.seq (.seq f18.body.r.r.r.r.l.l (.block 0 (.loop ckB))) f18.body.r.r.r.r.r))))) _ _;refine hA.seq (hB.seq (hC.seq (hD.seq ((hE.seq hr.block).seq (Ex.of (n:=40) ?_)))));unfold ckS;generalize LK .i64 ps=l1 at*;simp -implicitDefEqProofs [f18]
     ·simp -implicitDefEqProofs [f18]
    ·rw[hall];refine Ca.body (o:=.ret) (st1:=ckF (.box [.d (.v (.int .i64 6)),.d (.s 1 (LK .i64 ps))]) [.d (.v (.bool s)),.d (LD a),.d (LD b),.d (.v (.int .i64 c)),.d (.v (.bool i)),.d (.v (.int .u64 u)),.d (PD p),.d (.s 8 (W.ds ws))] bs) rfl (k18:E0.fn _=_) rfl ?_ (by intro id h;cases h) ?_
     ·show Ex E0 (.seq f18.body.l (.seq f18.body.r.l (.seq f18.body.r.r.l (.seq f18.body.r.r.r.l (.seq (.seq f18.body.r.r.r.r.l.l (.block 0 (.loop ckB))) f18.body.r.r.r.r.r))))) _ _;exact hA.seq (hB.seq (hC.seq (hD.seq (hE.seq hr.block_ret).seq_ret)))
     ·simp -implicitDefEqProofs [f18,ckF]
  ·have hl1:(ws.length==ps.length)=false:=by simpa using hlen
   have hne:((ws.length:Int) != (ps.length:Int))=true:=by simp;omega
   rw[hl1,Bool.false_and,Bool.false_and];refine Ca.ofS (n:=700) ?_;rw[CL_fn rfl (k18:E0.fn _=_) rfl];simp only[W.d,PD,LD,rgD]at*;generalize LL a=x1,LL b=x2,List.map Mo.d p=x5,W.ds ws=x7,LK .i64 ps=l1 at*;simp -implicitDefEqProofs [f18,hv,n1,n2,hne]
theorem ca_CheckK (k:Int)(ps:List Int)(w:W)(hk:k≠6)(hw:w.OK)(hvr:validRg k ps=true)(hv:∀ n,CL E0 (n+500) 31 [.d (rgD k ps)] []=some (.d (.v (.bool true)),none)) :
  Ca E0 18 [.d (rgD k ps),.d w.d] (.d (.v (.bool (chkB k w))),none):=by
 have hne:(k != 6)=true:=by simpa using hk
 have hs:single k=true:=by
  unfold validRg at hvr;rw[if_pos hk]at hvr;simp only[Bool.and_eq_true]at hvr;exact hvr.1
 obtain⟨n1,t1⟩:=(ca_chk k hs w hw).any;replace t1:=t1 (n1+600) (by omega);have hv':∀ m,CL E0 (n1+600+m) 31 [.d (rgD k ps)] []=some (.d (.v (.bool true)),none):=fun m=>by
  have:=hv (n1+100+m)
  rwa [show n1+100+m+500=n1+600+m by omega]at this
 clear hv;generalize chkB k w=vv at*;clear hvr hw;obtain⟨sx,ax,bx,cx,ix,ux,px,psx⟩:=w;simp only[W.d,PD,LD,rgD]at*;generalize LL ax=x1,LL bx=x2,List.map Mo.d px=x5,W.ds psx=x7 at*;rcases single_five hs with rfl|rfl|rfl|rfl|rfl
 ·have t2:=fun m=>CL_of cl_kind1 (n1+600+m) (by omega)
  have hF:chkF 1=108:=rfl;rw[hF]at t1;generalize n1+600=N at*;refine Ca.ofS (n:=N+90) ?_;rw[CL_fn rfl (k18:E0.fn _=_) rfl];simp only[kindV1,alg1]at t2;generalize LK .i64 ps=l1 at*;simp -implicitDefEqProofs [f18,hv',t1,t2]
 ·have t2:=fun m=>CL_of cl_kind2 (n1+600+m) (by omega)
  have hF:chkF 2=122:=rfl;rw[hF]at t1;generalize n1+600=N at*;refine Ca.ofS (n:=N+90) ?_;rw[CL_fn rfl (k18:E0.fn _=_) rfl];simp only[kindV2,kindL2,kindB2]at t2;generalize LK .i64 ps=l1 at*;simp -implicitDefEqProofs [f18,hv',t1,t2]
 ·have t2:=fun m=>CL_of cl_kind3 (n1+600+m) (by omega)
  have hF:chkF 3=133:=rfl;rw[hF]at t1;generalize n1+600=N at*;refine Ca.ofS (n:=N+90) ?_;rw[CL_fn rfl (k18:E0.fn _=_) rfl];simp only[kindV3,kindL3,kindB3]at t2;generalize LK .i64 ps=l1 at*;simp -implicitDefEqProofs [f18,hv',t1,t2]
 ·have t2:=fun m=>CL_of cl_kind4 (n1+600+m) (by omega)
  have hF:chkF 4=139:=rfl;rw[hF]at t1;generalize n1+600=N at*;refine Ca.ofS (n:=N+90) ?_;rw[CL_fn rfl (k18:E0.fn _=_) rfl];simp only[kindV4,kindL4,kindB4]at t2;generalize LK .i64 ps=l1 at*;simp -implicitDefEqProofs [f18,hv',t1,t2]
 ·have t2:=fun m=>CL_of cl_kind5 (n1+600+m) (by omega)
  have hF:chkF 5=149:=rfl;rw[hF]at t1;generalize n1+600=N at*;refine Ca.ofS (n:=N+90) ?_;rw[CL_fn rfl (k18:E0.fn _=_) rfl];simp only[kindV5]at t2;generalize LK .i64 ps=l1 at*;simp -implicitDefEqProofs [f18,hv',t1,t2]
theorem ca_Check (k:Int)(ps:List Int)(w:W)(hl:ps.length<=1000000)(hw:w.OK):Ca E0 18 [.d (rgD k ps),.d w.d] (.d (.v (.bool (checkB k ps w))),none):=by
 have hv:=fun n=>run_rvalid n k ps
 unfold checkB;cases hvr:validRg k ps
 ·rw[hvr]at hv;rw[Bool.false_and];refine Ca.ofS (n:=600) ?_;rw[CL_fn rfl (k18:E0.fn _=_) rfl];obtain⟨sx,ax,bx,cx,ix,ux,px,psx⟩:=w;simp only[W.d,PD,LD,rgD]at*;generalize LL ax=x1,LL bx=x2,List.map Mo.d px=x5,W.ds psx=x7,LK .i64 ps=l1 at*;simp -implicitDefEqProofs [f18,hv]
 ·rw[hvr]at hv;rw[Bool.true_and]
  by_cases hk:k=6
  ·subst hk;rw[if_neg (by simp)];exact ca_CheckP ps w hl hw hvr hv
  ·rw[if_pos hk];exact ca_CheckK k ps w hk hw hvr hv
def wcB:FStmt:=f29.body.r.r.r.r.l.r.bl.lp
def wcS (k:Int)(ks:List Int)(wb:List FV)(j:Nat)(t:FV):St:=(st0 [.u,.u,.r (.loc 0) 0,.r (.loc 1) 0,.u,.d (.v (.int .i64 j)),.u,.u,.u,t,.u] [.box [.d (.v (.int .i64 k)),.d (.s 1 (LK .i64 ks))],.box wb])
def wcF (k:Int)(ks:List Int)(wb:List FV):St:=(st0 [.u,.u,.u,.u,.d (.v (.bool false)),.u,.u,.u,.u,.u,.u] [.box [.d (.v (.int .i64 k)),.d (.s 1 (LK .i64 ks))],.box wb])
theorem wc_round (k0:Int)(p1 p2 p3 p4 p5 p6 p7:D)(ws:List W)(ks:List Int)(j:Nat)(k:Int)(w:W)(hl:ks.length<=1000000)(hk:ks[j]?=some k)(hw:ws[j]?=some w)(hs:single k=true)(ok:w.OK) :
  Ex E0 wcB (wcS k0 ks [.d p1,.d p2,.d p3,.d p4,.d p5,.d p6,.d p7,.d (.s 8 (W.ds ws))] j .u)
   (if chkB k w then(.norm,wcS k0 ks [.d p1,.d p2,.d p3,.d p4,.d p5,.d p6,.d p7,.d (.s 8 (W.ds ws))] (j+1) .u) else(.ret,wcF k0 ks [.d p1,.d p2,.d p3,.d p4,.d p5,.d p6,.d p7,.d (.s 8 (W.ds ws))])):=by
 have hj:=(List.getElem?_eq_some_iff.1 hk).1;have hj2:=(List.getElem?_eq_some_iff.1 hw).1;obtain⟨N,t1⟩:=(ca_simple k hs w ok).get;have n1':(LK .i64 ks).length=ks.length:=by simp[LK]
 have n2':(W.ds ws).length=ws.length:=by simp[W.ds_map]
 have e1:(LK .i64 ks)[j]?=some (.v (.int .i64 k)):=by simp[LK,hk]
 have e2:(W.ds ws)[j]?=some w.d:=by simp[W.ds_map,hw]
 have hinc:wrapS .i64 ((j:Int)+1)=(j:Int)+1:=wrap_i64 (by omega);have hk1:((j+1:Nat):Int)=(j:Int)+1:=by omega
 have hk0:(0:Int)<=(j:Int):=by omega
 generalize chkB k w=vv at*;clear hs ok hw hk;obtain⟨sx,ax,bx,cx,ix,ux,px,psx⟩:=w;simp only[W.d,PD,LD]at*;generalize LL ax=x1,LL bx=x2,List.map Mo.d px=x5,W.ds psx=x7 at*;refine Ex.of (n:=N+90) ?_;unfold wcS wcF;rw[hk1];generalize W.ds ws=es2,LK .i64 ks=es1 at*;have i1:=idx e1;have i2:=idx e2;cases vv
 ·simp -implicitDefEqProofs [wcB,f29,hj,hj2,hk0,e1,e2,i1,i2,n1',n2',t1]
 ·simp -implicitDefEqProofs [wcB,f29,hj,hj2,hk0,e1,e2,i1,i2,n1',n2',t1,hinc]
theorem wc_loop (k0:Int)(p1 p2 p3 p4 p5 p6 p7:D)(ws:List W)(ks:List Int)(hl:ks.length<=1000000)(he:ws.length=ks.length)(hs:ks.all single=true)(ok:∀ w ∈ ws,w.OK) :
  ∃ r,Ex E0 (.loop wcB) (wcS k0 ks [.d p1,.d p2,.d p3,.d p4,.d p5,.d p6,.d p7,.d (.s 8 (W.ds ws))] 0 .u) r /\
   ((allB ks ws=true/\r=(.exit 0,wcS k0 ks [.d p1,.d p2,.d p3,.d p4,.d p5,.d p6,.d p7,.d (.s 8 (W.ds ws))] ks.length (.d (.v (.bool false))))) \/
    (allB ks ws=false/\r=(.ret,wcF k0 ks [.d p1,.d p2,.d p3,.d p4,.d p5,.d p6,.d p7,.d (.s 8 (W.ds ws))]))):=by
 refine Ex.inv (S:=fun j:Nat=>wcS k0 ks [.d p1,.d p2,.d p3,.d p4,.d p5,.d p6,.d p7,.d (.s 8 (W.ds ws))] j .u) (fun j=>ks.length-j) (fun j=>j<=ks.length/\allB ks ws=allB (ks.drop j) (ws.drop j)) _ ?_ 0 ⟨by simp,by simp⟩;rintro j ⟨q1,q2⟩
 by_cases hj:j<ks.length
 ·have hk:ks[j]?=some (ks[j]'hj):=List.getElem?_eq_getElem hj;have hw:ws[j]?=some (ws[j]'(by omega)):=List.getElem?_eq_getElem (by omega);have d1:ks.drop j=ks[j]'hj::ks.drop (j+1):=List.drop_eq_getElem_cons hj;have d2:ws.drop j=ws[j]'(by omega)::ws.drop (j+1):=List.drop_eq_getElem_cons (by omega);have hr:=wc_round k0 p1 p2 p3 p4 p5 p6 p7 ws ks j _ _ hl hk hw (List.all_eq_true.1 hs _ (List.getElem_mem hj)) (ok _ (List.getElem_mem (by omega)));rw[d1,d2]at q2;simp only[allB]at q2;cases hv:chkB (ks[j]'hj) (ws[j]'(by omega))
  ·rw[hv]at hr q2;exact .inr ⟨_,hr,by simp,.inr ⟨by simpa using q2,rfl⟩⟩
  ·rw[hv]at hr q2;exact .inl ⟨j+1,hr,by omega,by omega,by simpa using q2⟩
 ·have hje:j=ks.length:=by omega
  subst hje;have n1':(LK .i64 ks).length=ks.length:=by simp[LK]
  rw[List.drop_length]at q2;refine .inr ⟨_,Ex.of (n:=60) ?_,?_,.inl ⟨by rw[q2];rfl,rfl⟩⟩
  ·unfold wcS;generalize LK .i64 ks=l1,W.ds ws=l2,ks.length=m at*;simp -implicitDefEqProofs [wcB,f29,n1']
  ·simp
theorem ca_wCheckP (ps:List Int)(w:W)(hl:ps.length<=1000000)(hw:w.OK)(hvr:validRg 6 ps=true)(hv:∀ n,CL E0 (n+500) 28 [.d (rgD 6 ps)] []=some (.d (.v (.bool true)),none)) :
  Ca E0 29 [.d (rgD 6 ps),.d w.d] (.d (.v (.bool ((w.ps.length==ps.length)&&w.bare&&allB ps w.ps))),none):=by
 have hs:ps.all single=true:=by
  unfold validRg at hvr;rw[if_neg (by simp)]at hvr;simp only[Bool.and_eq_true]at hvr;exact hvr.2
 have ok:=hw;cases hw with
 | @mk s a b c i u p ws ha hb la lb hp lp hok =>
  simp only[W.ps];have n1:(LK .i64 ps).length=ps.length:=by simp[LK]
  have n2:(W.ds ws).length=ws.length:=by simp[W.ds_map]
  obtain⟨N,t⟩:=(ca_wEqual _ (.mk (s:=false) (a:=[]) (b:=[]) (c:=0) (i:=false) (u:=0) (p:=[]) lim_nil lim_nil (by simp) (by simp) po_nil lp hok) _ ok).any;rw[eq_bare2]at t;generalize hbare:W.bare (.mk s a b c i u p ws)=bare at*
  by_cases hlen:ws.length=ps.length
  ·have hl1:(ws.length==ps.length)=true:=by simpa using hlen
   have hne:((ws.length:Int) != (ps.length:Int))=false:=by simp;omega
   rw[hl1,Bool.true_and];have hA:Ex E0 f29.body.l (st0 [.d (rgD 6 ps),.d (W.mk s a b c i u p ws).d,.u,.u,.u,.u,.u,.u,.u,.u,.u] [])
     (.norm,(st0 [.u,.u,.r (.loc 0) 0,.r (.loc 1) 0,.u,.u,.u,.u,.u,.u,.u] [.box [.d (.v (.int .i64 6)),.d (.s 1 (LK .i64 ps))],.box [.d (.v (.bool s)),.d (LD a),.d (LD b),.d (.v (.int .i64 c)),.d (.v (.bool i)),.d (.v (.int .u64 u)),.d (PD p),.d (.s 8 (W.ds ws))]])):=by
    refine Ex.of (n:=40) ?_;simp only[W.d,PD,LD,rgD];generalize LL a=x1;generalize LL b=x2;generalize List.map Mo.d p=x5;generalize W.ds ws=x7;generalize LK .i64 ps=l1;simp -implicitDefEqProofs [f29]
   have hB:Ex E0 f29.body.r.l (st0 [.u,.u,.r (.loc 0) 0,.r (.loc 1) 0,.u,.u,.u,.u,.u,.u,.u] [.box [.d (.v (.int .i64 6)),.d (.s 1 (LK .i64 ps))],.box [.d (.v (.bool s)),.d (LD a),.d (LD b),.d (.v (.int .i64 c)),.d (.v (.bool i)),.d (.v (.int .u64 u)),.d (PD p),.d (.s 8 (W.ds ws))]])
     (.norm,(st0 [.u,.u,.r (.loc 0) 0,.r (.loc 1) 0,.u,.u,.d (.v (.bool false)),.u,.u,.u,.u] [.box [.d (.v (.int .i64 6)),.d (.s 1 (LK .i64 ps))],.box [.d (.v (.bool s)),.d (LD a),.d (LD b),.d (.v (.int .i64 c)),.d (.v (.bool i)),.d (.v (.int .u64 u)),.d (PD p),.d (.s 8 (W.ds ws))]])):=by
    refine Ex.of (n:=600) ?_;simp only[PD,LD,rgD]at hv ⊢;generalize LL a=x1;generalize LL b=x2;generalize List.map Mo.d p=x5;generalize W.ds ws=x7;generalize LK .i64 ps=l1 at hv ⊢;simp -implicitDefEqProofs [f29,hv]
   have hC:Ex E0 f29.body.r.r.l (st0 [.u,.u,.r (.loc 0) 0,.r (.loc 1) 0,.u,.u,.d (.v (.bool false)),.u,.u,.u,.u] [.box [.d (.v (.int .i64 6)),.d (.s 1 (LK .i64 ps))],.box [.d (.v (.bool s)),.d (LD a),.d (LD b),.d (.v (.int .i64 c)),.d (.v (.bool i)),.d (.v (.int .u64 u)),.d (PD p),.d (.s 8 (W.ds ws))]])
     (.norm,(st0 [.u,.u,.r (.loc 0) 0,.r (.loc 1) 0,.u,.u,.u,.d (.v (.bool false)),.u,.u,.u] [.box [.d (.v (.int .i64 6)),.d (.s 1 (LK .i64 ps))],.box [.d (.v (.bool s)),.d (LD a),.d (LD b),.d (.v (.int .i64 c)),.d (.v (.bool i)),.d (.v (.int .u64 u)),.d (PD p),.d (.s 8 (W.ds ws))]])):=by
    refine Ex.of (n:=60) ?_;simp only[PD,LD];generalize LL a=x1;generalize LL b=x2;generalize List.map Mo.d p=x5;generalize W.ds ws=x7;generalize LK .i64 ps=l1;simp -implicitDefEqProofs [f29]
   cases hbb:bare
   ·rw[hbb]at t;rw[Bool.false_and];replace t:=t N (by omega);refine Ca.body (o:=.ret) (st1:=(st0 [.u,.u,.u,.u,.d (.v (.bool false)),.u,.u,.u,.u,.u,.u] [.box [.d (.v (.int .i64 6)),.d (.s 1 (LK .i64 ps))],.box [.d (.v (.bool s)),.d (LD a),.d (LD b),.d (.v (.int .i64 c)),.d (.v (.bool i)),.d (.v (.int .u64 u)),.d (PD p),.d (.s 8 (W.ds ws))]])) rfl (k29:E0.fn _=_) rfl ?_ (by intro id h;cases h) ?_
    ·show Ex E0 (.seq f29.body.l (.seq f29.body.r.l (.seq f29.body.r.r.l f29.body.r.r.r))) _ _;refine hA.seq (hB.seq (hC.seq (Ex.of (n:=N+90) ?_)));simp only[W.d,PD,LD,W.ds]at t ⊢;generalize LL a=x1 at t ⊢;generalize LL b=x2 at t ⊢;simp only[LL,List.map_nil]at t;generalize List.map Mo.d p=x5 at t ⊢;generalize W.ds ws=x7 at t n2 ⊢;generalize LK .i64 ps=l1 at n1 ⊢;simp -implicitDefEqProofs [f29,t,n1,n2,hne]
    ·simp -implicitDefEqProofs [f29]
   ·rw[hbb]at t;rw[Bool.true_and];obtain⟨r,hr,hq⟩:=wc_loop 6 (.v (.bool s)) (LD a) (LD b) (.v (.int .i64 c)) (.v (.bool i)) (.v (.int .u64 u)) (PD p) ws ps hl hlen hs hok;replace t:=t N (by omega);have hD:Ex E0 f29.body.r.r.r.l (st0 [.u,.u,.r (.loc 0) 0,.r (.loc 1) 0,.u,.u,.u,.d (.v (.bool false)),.u,.u,.u] [.box [.d (.v (.int .i64 6)),.d (.s 1 (LK .i64 ps))],.box [.d (.v (.bool s)),.d (LD a),.d (LD b),.d (.v (.int .i64 c)),.d (.v (.bool i)),.d (.v (.int .u64 u)),.d (PD p),.d (.s 8 (W.ds ws))]])
      (.norm,(st0 [.u,.u,.r (.loc 0) 0,.r (.loc 1) 0,.u,.u,.u,.u,.d (.v (.bool false)),.u,.u] [.box [.d (.v (.int .i64 6)),.d (.s 1 (LK .i64 ps))],.box [.d (.v (.bool s)),.d (LD a),.d (LD b),.d (.v (.int .i64 c)),.d (.v (.bool i)),.d (.v (.int .u64 u)),.d (PD p),.d (.s 8 (W.ds ws))]])):=by
     refine Ex.of (n:=N+90) ?_;simp only[W.d,PD,LD,W.ds]at t ⊢;generalize LL a=x1 at t ⊢;generalize LL b=x2 at t ⊢;simp only[LL,List.map_nil]at t;generalize List.map Mo.d p=x5 at t ⊢;generalize W.ds ws=x7 at t n2 ⊢;generalize LK .i64 ps=l1 at n1 ⊢;simp -implicitDefEqProofs [f29,t,n1,n2,hne]
    have hE:Ex E0 f29.body.r.r.r.r.l.l (st0 [.u,.u,.r (.loc 0) 0,.r (.loc 1) 0,.u,.u,.u,.u,.d (.v (.bool false)),.u,.u] [.box [.d (.v (.int .i64 6)),.d (.s 1 (LK .i64 ps))],.box [.d (.v (.bool s)),.d (LD a),.d (LD b),.d (.v (.int .i64 c)),.d (.v (.bool i)),.d (.v (.int .u64 u)),.d (PD p),.d (.s 8 (W.ds ws))]])
      (.norm,wcS 6 ps [.d (.v (.bool s)),.d (LD a),.d (LD b),.d (.v (.int .i64 c)),.d (.v (.bool i)),.d (.v (.int .u64 u)),.d (PD p),.d (.s 8 (W.ds ws))] 0 .u):=by
     refine Ex.of (n:=60) ?_;unfold wcS;simp only[PD,LD];generalize LL a=x1;generalize LL b=x2;generalize List.map Mo.d p=x5;generalize W.ds ws=x7;generalize LK .i64 ps=l1;simp -implicitDefEqProofs [f29]
    rcases hq with ⟨hall,rfl⟩|⟨hall,rfl⟩
    ·rw[hall];refine Ca.body (o:=.ret) (st1:=(st0 [.u,.u,.u,.u,.d (.v (.bool true)),.u,.u,.u,.u,.u,.u] [.box [.d (.v (.int .i64 6)),.d (.s 1 (LK .i64 ps))],.box [.d (.v (.bool s)),.d (LD a),.d (LD b),.d (.v (.int .i64 c)),.d (.v (.bool i)),.d (.v (.int .u64 u)),.d (PD p),.d (.s 8 (W.ds ws))]])) rfl (k29:E0.fn _=_) rfl ?_ (by intro id h;cases h) ?_
     ·show Ex E0 (.seq f29.body.l (.seq f29.body.r.l (.seq f29.body.r.r.l (.seq f29.body.r.r.r.l (.seq (.seq f29.body.r.r.r.r.l.l (.block 0 (.loop wcB))) f29.body.r.r.r.r.r))))) _ _;refine hA.seq (hB.seq (hC.seq (hD.seq ((hE.seq hr.block).seq (Ex.of (n:=40) ?_)))));unfold wcS;generalize LK .i64 ps=l1;simp -implicitDefEqProofs [f29]
     ·simp -implicitDefEqProofs [f29]
    ·rw[hall];refine Ca.body (o:=.ret) (st1:=wcF 6 ps [.d (.v (.bool s)),.d (LD a),.d (LD b),.d (.v (.int .i64 c)),.d (.v (.bool i)),.d (.v (.int .u64 u)),.d (PD p),.d (.s 8 (W.ds ws))]) rfl (k29:E0.fn _=_) rfl ?_ (by intro id h;cases h) ?_
     ·show Ex E0 (.seq f29.body.l (.seq f29.body.r.l (.seq f29.body.r.r.l (.seq f29.body.r.r.r.l (.seq (.seq f29.body.r.r.r.r.l.l (.block 0 (.loop wcB))) f29.body.r.r.r.r.r))))) _ _;exact hA.seq (hB.seq (hC.seq (hD.seq (hE.seq hr.block_ret).seq_ret)))
     ·simp -implicitDefEqProofs [f29,wcF]
  ·have hl1:(ws.length==ps.length)=false:=by simpa using hlen
   have hne:((ws.length:Int) != (ps.length:Int))=true:=by simp;omega
   rw[hl1,Bool.false_and,Bool.false_and];refine Ca.ofS (n:=700) ?_;rw[CL_fn rfl (k29:E0.fn _=_) rfl];clear t hok ok;simp only[W.d,PD,LD,rgD]at*;generalize LL a=x1,LL b=x2,List.map Mo.d p=x5,W.ds ws=x7,LK .i64 ps=l1 at*;simp -implicitDefEqProofs [f29,hv,n1,n2,hne]
theorem ca_wCheck (k:Int)(ps:List Int)(w:W)(hl:ps.length<=1000000)(hw:w.OK):Ca E0 29 [.d (rgD k ps),.d w.d] (.d (.v (.bool (checkB k ps w))),none):=by
 have hv:=fun n=>run_wrvalid n k ps
 unfold checkB;cases hvr:validRg k ps
 ·rw[hvr]at hv;rw[Bool.false_and];refine Ca.ofS (n:=600) ?_;rw[CL_fn rfl (k29:E0.fn _=_) rfl];obtain⟨sx,ax,bx,cx,ix,ux,px,psx⟩:=w;simp only[W.d,PD,LD,rgD]at*;generalize LL ax=x1,LL bx=x2,List.map Mo.d px=x5,W.ds psx=x7,LK .i64 ps=l1 at*;simp -implicitDefEqProofs [f29,hv]
 ·rw[hvr]at hv;rw[Bool.true_and]
  by_cases hk:k=6
  ·subst hk;rw[if_neg (by simp)];exact ca_wCheckP ps w hl hw hvr hv
  ·rw[if_pos hk];have hne:(k != 6)=true:=by simpa using hk
   have hs:single k=true:=by
    unfold validRg at hvr;rw[if_pos hk]at hvr;simp only[Bool.and_eq_true]at hvr;exact hvr.1
   obtain⟨n1,t1⟩:=(ca_simple k hs w hw).any;replace t1:=t1 (n1+600) (by omega);have hv':∀ m,CL E0 (n1+600+m) 28 [.d (rgD k ps)] []=some (.d (.v (.bool true)),none):=fun m=>by
    have:=hv (n1+100+m)
    rwa [show n1+100+m+500=n1+600+m by omega]at this
   clear hv;generalize chkB k w=vv,n1+600=N at*;clear hvr hw;refine Ca.ofS (n:=N+90) ?_;rw[CL_fn rfl (k29:E0.fn _=_) rfl];obtain⟨sx,ax,bx,cx,ix,ux,px,psx⟩:=w;simp only[W.d,PD,LD,rgD]at*;generalize LL ax=x1,LL bx=x2,List.map Mo.d px=x5,W.ds psx=x7,LK .i64 ps=l1 at*;simp -implicitDefEqProofs [f29,hv',t1,hne]
end Fi.S
