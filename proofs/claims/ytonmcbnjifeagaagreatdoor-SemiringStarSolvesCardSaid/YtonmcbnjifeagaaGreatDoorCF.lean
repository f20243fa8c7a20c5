/- Light weights; what a row reads. -/
import Derived.Test.YtonmcbnjifeagaaGreatDoorCE
import Derived.Test.YtonmcbnjifeagaaGreatDoorFiH
set_option linter.unusedVariables false
set_option linter.unusedSimpArgs false
noncomputable section
namespace Fi.S
open Go Fi
section
structure Tys (P:Program):Prop where
 ring:structB P 24 [(3,0,1),(22,1,1)] 2=true
 rat:structB P 28 [(4,0,1),(26,1,1),(26,2,1)] 3=true
 mono:structB P 86 [(84,0,3),(28,3,3)] 6=true
 weight:structB P 33 [(28,0,3),(3,3,1),(4,4,1),(29,5,1),(30,6,1),(31,7,1)] 8=true
 ints:sliceB P 22 3 1=true
 limbs:sliceB P 26 110 1=true
 poly:sliceB P 30 86 6=true
 parts:sliceB P 31 33 8=true
 arr:arrayB P 84 3 3 1=true
 int:intB P 3 .i64=true
 set:intB P 29 .u64=true
 limb:intB P 110 .u32=true
 bool:boolB P 4=true
def Mo.Typ (m:Mo):Prop:=Lim m.a/\Lim m.b
def u64r (u:Int):Prop:=0<=u/\u<18446744073709551616
inductive W.Typ:W->Prop
 | mk {s:Bool} {a b:List Nat} {c:Int} {i:Bool} {u:Int} {p:List Mo} {ps:List W} (ha:Lim a) (hb:Lim b) (hp:∀ m ∈ p,m.Typ) (hu:u64r u) (h:∀ w ∈ ps,W.Typ w):W.Typ (.mk s a b c i u p ps)
section lift
variable {H:Type} {enc:TypeId × Value->H} {P:Program} {w:World} {base:Nat} {held:Bool} {σ:Nat->Option FuncId} {sp:Nat->Bool} {fuel:Nat} {cs:List Value} {x:DataW H × List MemPlace}
theorem wf_i64 {n:Int}(h:(Lit.int .i64 n).wf=true):i64r n:=by
 simp only[Lit.wf,Bool.and_eq_true,decide_eq_true_eq]at h;have e1:IntKind.min .i64=-9223372036854775808:=by rfl
 have e2:IntKind.max .i64=9223372036854775807:=by rfl
 unfold i64r;rw[e1,e2]at h;omega
end lift
end
end Fi.S
namespace Fi.S
open Go Fi
set_option maxHeartbeats 8000000
attribute [local simp] oo og ci ml mv ld lf fa lo st0 cl ia lr fl ln sv fb mF mi mn bx bc bl pF pT sl EX_skip EX_ret EX_exit EX_kill EX_seq EX_cond EX_block EX_region ROps_nil ROps_cons RK_mov RK_pick RK_bin RK_conv RK_beq RK_aeq RK_nileq RK_un RK_box RK_new RK_load RK_store RK_faddr RK_field RK_iaddr RK_aaddr RK_index RK_build RK_lit RK_len RK_maxi RK_mini RK_app RK_slice RK_mk RK_ext RK_clo RK_call RK_callv RK_callr RK_callw RK_loadl RK_mkmap RK_mget RK_mput RK_cap RK_appz callFull RK_slen RK_sindex RK_sslice guardV runK argV argsV doCall callPure D.cells FV.cells FV.one D.one oneV St.push St.heap St.setHeap splice partF partD s_add s_sub s_mul s_quo s_rem s_or s_and s_xor s_shl s_shr s_eql s_neq s_lss s_leq s_gtr s_geq unV setVars killVars apartOk finish ressV resV leavesL leaves leaveL leave1 allD mkA fillF finish2 isPure oneOf freezeAll FV.rows FV.rows1 D.norm D.norm1 scalar D.isV FV.shift FV.shiftL AObj.shift pureElem fillE elems FStmt.l FStmt.r FStmt.bl FStmt.lp
set_option maxRecDepth 4000
def Mo.light (m:Mo):Bool:=decide ((m.a.length:Int)<=2)&&decide ((m.b.length:Int)<=2)
mutual
def W.light:W->Bool
 | .mk _ a b _ _ _ p ps=>(decide ((a.length:Int)<=3)&&decide ((b.length:Int)<=3))&&decide (p.length<=8)&&decide (ps.length<=4)&&p.all Mo.light&&W.lights ps
def W.lights:List W->Bool
 | []=>true
 | w::r=>w.light&&W.lights r
end
def ltB:FStmt:=f59.body.r.r.l.r.bl.lp
def luB:FStmt:=f59.body.r.r.r.l.r.bl.lp
def ltS (wb:List FV)(j:Nat)(t:FV):St:=(st0 [.u,.r (.loc 0) 0,.u,.d (.v (.int .i64 j)),.u,.u,t,.u,.u,.u] [.box wb])
def luS (wb:List FV)(j:Nat)(t:FV):St:=(st0 [.u,.r (.loc 0) 0,.u,.u,.d (.v (.int .i64 j)),.u,.u,.u,t,.u] [.box wb])
def ltF (wb:List FV):St:=(st0 [.u,.u,.d (.v (.bool false)),.u,.u,.u,.u,.u,.u,.u] [.box wb])
end Fi.S
