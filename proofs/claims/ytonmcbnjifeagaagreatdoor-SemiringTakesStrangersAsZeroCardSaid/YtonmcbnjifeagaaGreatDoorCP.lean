/- SemiringTakesStrangersAsZero: its body. -/
import Derived.Test.YtonmcbnjifeagaaGreatDoorPZeroB
import Derived.Test.YtonmcbnjifeagaaGreatDoorPZeroC
import Derived.Test.YtonmcbnjifeagaaGreatDoorPZeroD
import Derived.Test.YtonmcbnjifeagaaGreatDoorPZero
import Derived.Test.YtonmcbnjifeagaaGreatDoorCN
import Derived.Test.YtonmcbnjifeagaaGreatDoorCF
import Derived.Test.YtonmcbnjifeagaaGreatDoorCH
set_option linter.unusedVariables false
set_option linter.unusedSimpArgs false
namespace Fi.S
open Go Fi
set_option maxHeartbeats 8000000
theorem zc_all (k:Int) (ps:List Int) (h:validRg k ps=true):zcB k ps=true:=by
 have five:∀ {a:Int},single a=true→a ∈ [1,2,3,4,5]:=by
  intro a ha
  simp only [single,Bool.and_eq_true,decide_eq_true_eq] at ha
  simp only [List.mem_cons,List.not_mem_nil,or_false]
  omega
 have main:∀ {f:Int→Bool} {x:Int},([1,2,3,4,5].all f)=true→x ∈ [1,2,3,4,5]→f x=true:=by
  intro f x h1 h2
  exact List.all_eq_true.1 h1 _ h2
 unfold validRg at h
 by_cases hk:k=6
 ·subst hk
  rw [if_neg (by simp)] at h
  simp only [Bool.and_eq_true,decide_eq_true_eq,List.all_eq_true] at h
  obtain ⟨⟨h2,h3⟩,hs⟩:=h
  match ps,h2,h3,hs with
  | [a,b],_,_,hs =>
   have ha:=five (hs a (by simp))
   have hb:=five (hs b (by simp))
   simp only [List.mem_cons,List.not_mem_nil,or_false] at ha
   rcases ha with rfl | rfl | rfl | rfl | rfl
   ·exact main (f:=fun k=>zcB 6 [1,k]) (x:=b) zc_21 hb
   ·exact main (f:=fun k=>zcB 6 [2,k]) (x:=b) zc_22 hb
   ·exact main (f:=fun k=>zcB 6 [3,k]) (x:=b) zc_23 hb
   ·exact main (f:=fun k=>zcB 6 [4,k]) (x:=b) zc_24 hb
   ·exact main (f:=fun k=>zcB 6 [5,k]) (x:=b) zc_25 hb
  | [a,b,c],_,_,hs =>
   have ha:=five (hs a (by simp))
   have hb:=five (hs b (by simp))
   have hc:=five (hs c (by simp))
   simp only [List.mem_cons,List.not_mem_nil,or_false] at ha hb
   rcases ha with rfl | rfl | rfl | rfl | rfl <;> rcases hb with rfl | rfl | rfl | rfl | rfl
   ·exact main (f:=fun k=>zcB 6 [1,1,k]) (x:=c) zc_311 hc
   ·exact main (f:=fun k=>zcB 6 [1,2,k]) (x:=c) zc_312 hc
   ·exact main (f:=fun k=>zcB 6 [1,3,k]) (x:=c) zc_313 hc
   ·exact main (f:=fun k=>zcB 6 [1,4,k]) (x:=c) zc_314 hc
   ·exact main (f:=fun k=>zcB 6 [1,5,k]) (x:=c) zc_315 hc
   ·exact main (f:=fun k=>zcB 6 [2,1,k]) (x:=c) zc_321 hc
   ·exact main (f:=fun k=>zcB 6 [2,2,k]) (x:=c) zc_322 hc
   ·exact main (f:=fun k=>zcB 6 [2,3,k]) (x:=c) zc_323 hc
   ·exact main (f:=fun k=>zcB 6 [2,4,k]) (x:=c) zc_324 hc
   ·exact main (f:=fun k=>zcB 6 [2,5,k]) (x:=c) zc_325 hc
   ·exact main (f:=fun k=>zcB 6 [3,1,k]) (x:=c) zc_331 hc
   ·exact main (f:=fun k=>zcB 6 [3,2,k]) (x:=c) zc_332 hc
   ·exact main (f:=fun k=>zcB 6 [3,3,k]) (x:=c) zc_333 hc
   ·exact main (f:=fun k=>zcB 6 [3,4,k]) (x:=c) zc_334 hc
   ·exact main (f:=fun k=>zcB 6 [3,5,k]) (x:=c) zc_335 hc
   ·exact main (f:=fun k=>zcB 6 [4,1,k]) (x:=c) zc_341 hc
   ·exact main (f:=fun k=>zcB 6 [4,2,k]) (x:=c) zc_342 hc
   ·exact main (f:=fun k=>zcB 6 [4,3,k]) (x:=c) zc_343 hc
   ·exact main (f:=fun k=>zcB 6 [4,4,k]) (x:=c) zc_344 hc
   ·exact main (f:=fun k=>zcB 6 [4,5,k]) (x:=c) zc_345 hc
   ·exact main (f:=fun k=>zcB 6 [5,1,k]) (x:=c) zc_351 hc
   ·exact main (f:=fun k=>zcB 6 [5,2,k]) (x:=c) zc_352 hc
   ·exact main (f:=fun k=>zcB 6 [5,3,k]) (x:=c) zc_353 hc
   ·exact main (f:=fun k=>zcB 6 [5,4,k]) (x:=c) zc_354 hc
   ·exact main (f:=fun k=>zcB 6 [5,5,k]) (x:=c) zc_355 hc
 ·rw [if_pos hk] at h
  simp only [Bool.and_eq_true,decide_eq_true_eq] at h
  obtain ⟨h1,rfl⟩:=h
  exact main (f:=fun k=>zcB k []) (x:=k) zc_1 (five h1)
def zeroW (k:Int) (ps:List Int):W:=if k=6 then wProd (ps.map fun k=>(zeroK k).w) else (zeroK k).w
theorem zeroK_d (k:Int):(zeroK k).w.d=zlit k:=by
 have h1:qs 0=false:=by decide
 have h2:qn 0=[]:=enc_zero
 have h3:qd 0=[]:=if_pos rfl
 unfold zeroK zlit
 by_cases a:k=2
 ·subst a; rfl
 ·have e:(k==2)=false:=by simpa using a
  rw [if_neg a,e]
  by_cases b:k=4
  ·rw [if_pos b]; rfl
  ·rw [if_neg b]
   by_cases c:k=5
   ·rw [if_pos c]; rfl
   ·rw [if_neg c]
    simp only [Sv.w,W.d,W.ds,h1,h2,h3,LD,LL,PD,List.map_nil]
theorem zeroW_d (k:Int) (ps:List Int):(zeroW k ps).d=zlitD k ps:=by
 unfold zeroW zlitD
 by_cases h:k=6
 ·rw [if_pos h,if_pos h]
  have:W.ds (ps.map fun k=>(zeroK k).w)=ps.map zlit:=by
   rw [W.ds_map,List.map_map]
   exact List.map_congr_left fun x _=>zeroK_d x
  show D.a [.v (.bool false),.s 1 [],.s 1 [],.v (.int .i64 0),.v (.bool false),.v (.int .u64 0),.s 6 [],.s 8 (W.ds (ps.map fun k=>(zeroK k).w))]=_
  rw [this]
 ·rw [if_neg h,if_neg h,zeroK_d]
theorem ca_zeroW {k:Int} {ps:List Int} (h:validRg k ps=true):Ca E1 26 [.d (rgD k ps)] (.d (zeroW k ps).d,none):=by
 have h1:=zc_all k ps h
 unfold zcB at h1
 rw [Bool.and_eq_true] at h1
 have h2:=h1.1
 split at h2
 ·rename_i z hz
  rw [zeroW_d,← sameD_eq h2]
  exact Ca.up1 (Ca.of hz)
 ·cases h2
theorem ca_oneW {k:Int} {ps:List Int} (h:validRg k ps=true):∃ z:D,z.norm=z∧Ca E1 27 [.d (rgD k ps)] (.d z,none)∧Ca E1 18 [.d (rgD k ps),.d z] (.d (.v (.bool true)),none):=by
 obtain ⟨K,hK⟩:=has_const
 have h1:=zc_all k ps h
 unfold zcB at h1
 rw [Bool.and_eq_true] at h1
 have h2:=h1.2
 split at h2
 ·rename_i z hz
  rw [Bool.and_eq_true] at h2
  exact ⟨z,sameD_eq h2.1,Ca.of (callN_has hK hz),Ca.of (callN_has hK (of_yes h2.2))⟩
 ·cases h2
end Fi.S
namespace Fi.S
open Go Fi
set_option maxHeartbeats 8000000
attribute [local simp] oo og ci ml mv ld lf fa EX_skip EX_ret EX_exit EX_kill EX_seq EX_cond EX_block EX_region ROps_nil ROps_cons RK_mov RK_pick RK_bin RK_conv RK_beq RK_aeq RK_nileq RK_un RK_box RK_new RK_load RK_store RK_faddr RK_field RK_iaddr RK_aaddr RK_index RK_build RK_lit RK_len RK_maxi RK_mini RK_app RK_slice RK_mk RK_ext RK_clo RK_call RK_callv RK_callr RK_mkmap RK_mget RK_mput RK_cap RK_appz callFull RK_slen RK_sindex RK_sslice guardV runK argV argsV doCall callPure D.cells FV.cells FV.one D.one oneV St.push St.heap St.setHeap splice partF partD s_add s_sub s_mul s_quo s_rem s_or s_and s_xor s_shl s_shr s_eql s_neq s_lss s_leq s_gtr s_geq unV setVars killVars apartOk finish ressV resV leavesL leaves leaveL leave1 allD mkA fillF finish2 isPure oneOf freezeAll FV.rows FV.rows1 D.norm D.norm1 scalar D.isV FV.shift FV.shiftL AObj.shift pureElem fillE elems FStmt.l FStmt.r FStmt.bl FStmt.lp
set_option maxRecDepth 4000
theorem ca_lightL (k:Int) (ps:List Int) (v w:W):Ca E0 22 [.d (rgD k ps),.d v.d,.d w.d] (.d (.v (.bool (decide ((ps.length:Int)≤6)&&v.light&&w.light))),none):=by
 obtain ⟨n1,h1⟩:=(ca_light v).any
 obtain ⟨n2,h2⟩:=(ca_light w).any
 obtain ⟨K,hK⟩:∃ K,K=n1+n2+40:=⟨_,rfl⟩
 replace h1:=h1 K (by omega)
 replace h2:=h2 K (by omega)
 have t:=fun m=>CL_mono (run_lightRing 0 k ps) (show 0+40≤K+m by omega)
 clear hK
 refine Ca.ofS (n:=K+60) ?_
 rw [CL_fn rfl (show E0.fn 22=some f22 from rfl) rfl]
 generalize v.light=q1 at *
 generalize w.light=q2 at *
 generalize decide ((ps.length:Int)≤6)=q0 at *
 obtain ⟨s,a,b,c,i,u,p,pp⟩:=v
 obtain ⟨s',a',b',c',i',u',p',pp'⟩:=w
 simp only [W.d,PD,LD,rgD] at *
 generalize LK .i64 ps=l1 at *
 generalize LL a=x1 at *
 generalize LL b=x2 at *
 generalize List.map Mo.d p=x5 at *
 generalize W.ds pp=x7 at *
 generalize LL a'=y1 at *
 generalize LL b'=y2 at *
 generalize List.map Mo.d p'=y5 at *
 generalize W.ds pp'=y7 at *
 cases q0 <;> cases q1 <;> cases q2 <;> simp -implicitDefEqProofs [f22,h1,h2,t]
theorem norm_n (sz:Nat):D.norm (.n sz)=.s sz []:=rfl
theorem norm_a (cs:List D):D.norm (.a cs)=.a (cs.map D.norm1):=rfl
theorem norm_t (cs:List D):D.norm (.t cs)=.t (cs.map D.norm1):=rfl
theorem norm_v (x:Value):D.norm (.v x)=.v x:=rfl
theorem norm_s (sz:Nat) (es:List D):D.norm (.s sz es)=.s sz es:=rfl
theorem law8_dark (hA:Ca E1 11 [] (.d (.v (.bool true)),none)) (k:Int) (ps:List Int) (v w:W) (hv:v.light=true→v.OK)
  (h:(decide ((ps.length:Int)≤6)&&v.light&&w.light)=false∨((decide ((ps.length:Int)≤6)&&v.light&&w.light)=true∧validRg k ps=false)∨((decide ((ps.length:Int)≤6)&&v.light&&w.light)=true∧validRg k ps=true∧checkB k ps v=true)) :
  Ca E1 8 [.d (rgD k ps),.d v.d,.d w.d] (.d (.v (.bool true)),none):=by
 obtain ⟨n0,a0⟩:=hA.any
 obtain ⟨n1,a1⟩:=(Ca.up1 (ca_lightL k ps v w)).any
 obtain ⟨n2,a2⟩:=(Ca.up1 (Ca.ofS (run_wrvalid 0 k ps))).any
 have a3:(decide ((ps.length:Int)≤6)&&v.light&&w.light)=true→∃ n3,∀ n,n3≤n→∀ m,CL E1 (n+m) 29 [.d (rgD k ps),.d v.d] []=some (.d (.v (.bool (checkB k ps v))),none):=fun h=>by
  simp only [Bool.and_eq_true,decide_eq_true_eq] at h
  exact (Ca.up1 (ca_wCheck k ps v (by omega) (hv h.1.2))).any
 generalize (decide ((ps.length:Int)≤6)&&v.light&&w.light)=q1 at *
 generalize validRg k ps=q2 at *
 generalize checkB k ps v=q3 at *
 obtain ⟨vs,vl1,vl2,vc,vb,vu,vp,vps,ev⟩:=v.wD_of
 obtain ⟨ws,wl1,wl2,wc,wb,wu,wp,wps,ew⟩:=w.wD_of
 rw [ev] at a1 a3 ⊢
 rw [ew] at a1 ⊢
 unfold wD rgD at *
 generalize LK .i64 ps=l1 at *
 clear ev ew hv hA
 rcases h with rfl | ⟨rfl,rfl⟩ | ⟨rfl,rfl,rfl⟩
 ·obtain ⟨K,hK⟩:∃ K,K=n0+n1+n2:=⟨_,rfl⟩
  replace a0:=a0 K (by omega)
  replace a1:=a1 K (by omega)
  refine Ca.ofS (n:=K+100) ?_
  rw [CL_fn rfl (show E1.fn 8=some f8 from rfl) rfl]
  simp -implicitDefEqProofs [f8,a0,a1]
 ·obtain ⟨K,hK⟩:∃ K,K=n0+n1+n2:=⟨_,rfl⟩
  replace a0:=a0 K (by omega)
  replace a1:=a1 K (by omega)
  replace a2:=a2 K (by omega)
  refine Ca.ofS (n:=K+100) ?_
  rw [CL_fn rfl (show E1.fn 8=some f8 from rfl) rfl]
  simp -implicitDefEqProofs [f8,a0,a1,a2]
 ·obtain ⟨n3,a3⟩:=a3 rfl
  obtain ⟨K,hK⟩:∃ K,K=n0+n1+n2+n3:=⟨_,rfl⟩
  replace a0:=a0 K (by omega)
  replace a1:=a1 K (by omega)
  replace a2:=a2 K (by omega)
  replace a3:=a3 K (by omega)
  refine Ca.ofS (n:=K+100) ?_
  rw [CL_fn rfl (show E1.fn 8=some f8 from rfl) rfl]
  simp -implicitDefEqProofs [f8,a0,a1,a2,a3]
theorem law8_light (hA:Ca E1 11 [] (.d (.v (.bool true)),none)) (k:Int) (ps:List Int) (v w Z P:W) (hl:ps.length≤6) (hv:v.OK) (h1:v.light=true) (h2:w.light=true) (hvr:validRg k ps=true) (hc:checkB k ps v=false)
  (hP:P.OK) (hZ:Z.OK) (c26:Ca E1 26 [.d (rgD k ps)] (.d Z.d,none)) (c14:Ca E1 14 [.d (rgD k ps),.d v.d,.d w.d] (.d P.d,none)) (c14':Ca E1 14 [.d (rgD k ps),.d Z.d,.d w.d] (.d P.d,none))
  (c13:Ca E1 13 [.d (rgD k ps),.d w.d,.d v.d] (.d Z.d,none)) (cP:checkB k ps P=true) (cZ:checkB k ps Z=true) :
  Ca E1 8 [.d (rgD k ps),.d v.d,.d w.d] (.d (.v (.bool true)),none):=by
 obtain ⟨o,e1,ho1,ho2⟩:=ca_oneW hvr
 have l:=ca_lightL k ps v w
 rw [h1,h2,decide_eq_true (show (ps.length:Int)≤6 by omega)] at l
 have l2:=run_wrvalid 0 k ps
 rw [hvr] at l2
 have l3:=ca_wCheck k ps v (by omega) hv
 rw [hc] at l3
 have l4:=ca_Check k ps P (by omega) hP
 rw [cP] at l4
 have l5:=ca_Check k ps Z (by omega) hZ
 rw [cZ] at l5
 have l6:=ca_wEqual P hP P hP
 rw [W.eq_refl] at l6
 have l7:=ca_wEqual Z hZ Z hZ
 rw [W.eq_refl] at l7
 obtain ⟨n0,a0⟩:=hA.any
 obtain ⟨n1,a1⟩:=(Ca.up1 l).any
 obtain ⟨n2,a2⟩:=(Ca.up1 (Ca.ofS l2)).any
 obtain ⟨n3,a3⟩:=(Ca.up1 l3).any
 obtain ⟨n4,a4⟩:=c26.any
 obtain ⟨n5,a5⟩:=c14.any
 obtain ⟨n6,a6⟩:=c14'.any
 obtain ⟨n7,a7⟩:=c13.any
 obtain ⟨n8,a8⟩:=(Ca.up1 l4).any
 obtain ⟨n9,a9⟩:=(Ca.up1 l5).any
 obtain ⟨m0,b0⟩:=(Ca.up1 l6).any
 obtain ⟨m1,b1⟩:=(Ca.up1 l7).any
 obtain ⟨m2,b2⟩:=ho1.any
 obtain ⟨m3,b3⟩:=ho2.any
 obtain ⟨K,hK⟩:∃ K,K=n0+n1+n2+n3+n4+n5+n6+n7+n8+n9+m0+m1+m2+m3:=⟨_,rfl⟩
 replace a0:=a0 K (by omega)
 replace a1:=a1 K (by omega)
 replace a2:=a2 K (by omega)
 replace a3:=a3 K (by omega)
 replace a4:=a4 K (by omega)
 replace a5:=a5 K (by omega)
 replace a6:=a6 K (by omega)
 replace a7:=a7 K (by omega)
 replace a8:=a8 K (by omega)
 replace a9:=a9 K (by omega)
 replace b0:=b0 K (by omega)
 replace b1:=b1 K (by omega)
 replace b2:=b2 K (by omega)
 replace b3:=b3 K (by omega)
 obtain ⟨vs,vl1,vl2,vc,vb,vu,vp,vps,ev⟩:=v.wD_of
 obtain ⟨ws,wl1,wl2,wc,wb,wu,wp,wps,ew⟩:=w.wD_of
 obtain ⟨zs,zl1,zl2,zc,zb,zu,zp,zps,ez⟩:=Z.wD_of
 obtain ⟨xs,xl1,xl2,xc,xb,xu,xp,xps,ex⟩:=P.wD_of
 rw [ev] at a1 a3 a5 a7
 rw [ew] at a1 a5 a6 a7
 rw [ez] at a4 a6 a7 a9 b1
 rw [ex] at a5 a6 a8 b0
 rw [ev,ew]
 clear ev ew ez ex hK hA l l2 l3 l4 l5 l6 l7 c26 c14 c14' c13 cP cZ ho1 ho2 hl hv h1 h2 hvr hc hP hZ n0 n1 n2 n3 n4 n5 n6 n7 n8 n9 m0 m1 m2 m3
 refine Ca.ofS (n:=K+200) ?_
 rw [CL_fn rfl (show E1.fn 8=some f8 from rfl) rfl]
 unfold wD rgD at *
 generalize LK .i64 ps=l1 at *
 simp (maxSteps:=1000000) -implicitDefEqProofs [f8,-D.norm,norm_n,norm_a,norm_t,norm_v,norm_s,a0,a1,a2,a3,a4,a5,a6,a7,a8,a9,b0,b1,b2,b3,e1]
end Fi.S
namespace Fi.S
open Go Fi
set_option maxHeartbeats 8000000
theorem light_sm:∀ w:W,w.Typ→w.light=true→w.Sm 3∧w.mons.length≤8
 | .mk s a b c i u p ps,ht,hl=>by
  rw [light_head] at hl
  simp only [Bool.and_eq_true,decide_eq_true_eq] at hl
  obtain ⟨⟨⟨⟨⟨h1,h2⟩,h3⟩,h4⟩,h5⟩,h6⟩:=hl
  cases ht with
  | mk ha hb hp hu hw =>
   refine ⟨.mk ha hb (by omega) (by omega) (fun m hm => ?_) hu (fun w hm=>(light_sm w (hw w hm) (List.all_eq_true.1 h6 w hm)).1),h3⟩
   have:=List.all_eq_true.1 h5 m hm
   simp only [Mo.light,Bool.and_eq_true,decide_eq_true_eq] at this
   exact ⟨(hp m hm).1,(hp m hm).2,by omega,by omega⟩
termination_by w=>sizeOf w
decreasing_by
 have:=List.sizeOf_lt_of_mem hm
 simp
 omega
theorem light_part {w:W} (ht:w.Typ) (hl:w.light=true):∀ x ∈ w.ps,x.Sm 3∧x.mons.length≤8:=by
 obtain ⟨s,a,b,c,i,u,p,ps⟩:=w
 rw [light_head] at hl
 simp only [Bool.and_eq_true,decide_eq_true_eq] at hl
 cases ht with
 | mk ha hb hp hu hw=>exact fun x hx=>light_sm x (hw x hx) (List.all_eq_true.1 hl.2 x hx)
def Ofs (S M:Nat) (ps:List Int) (xs:List Sv):Prop:=xs.length=ps.length∧∀ (i:Nat) (k:Int) (x:Sv),ps[i]?=some k→xs[i]?=some x→x.of k S M
theorem allB_some:∀ {ps:List Int} {ws:List W},(∀ k ∈ ps,single k=true)→ws.length=ps.length→(∀ w ∈ ws,w.Sm 3∧w.mons.length≤8)→allB ps ws=true→∃ xs:List Sv,ws=xs.map Sv.w∧Ofs 3 8 ps xs
 | [],[],_,_,_,_=>⟨[],rfl,rfl,fun i k x h=>by simp at h⟩
 | [],_::_,_,h,_,_=>by simp at h
 | _::_,[],_,h,_,_=>by simp at h
 | k::ps,w::ws,hs,hl,hw,h=>by
  simp only [allB,Bool.and_eq_true] at h
  obtain ⟨x,rfl,hx⟩:=of_chk (hs k (List.mem_cons_self ..)) (by omega) (hw w (List.mem_cons_self ..)).1 (hw w (List.mem_cons_self ..)).2 h.1
  obtain ⟨xs,rfl,h1,h2⟩:=allB_some (fun k hk=>hs k (List.mem_cons_of_mem _ hk)) (by simpa using hl) (fun w h'=>hw w (List.mem_cons_of_mem _ h')) h.2
  refine ⟨x::xs,rfl,by simp [h1],fun i k' x' hk hx' => ?_⟩
  cases i with
  | zero=>cases hk; cases hx'; exact hx
  | succ i=>exact h2 i k' x' (by simpa using hk) (by simpa using hx')
theorem allB_of {S M:Nat}:∀ {ps:List Int} {xs:List Sv},Ofs S M ps xs→allB ps (xs.map Sv.w)=true
 | [],[],_=>rfl
 | [],_::_,h=>by simp [Ofs] at h
 | _::_,[],h=>by simp [Ofs] at h
 | k::ps,x::xs,h=>by
  simp only [List.map_cons,allB,Bool.and_eq_true]
  exact ⟨chk_of (h.2 0 k x rfl rfl),allB_of ⟨by simpa using h.1,fun i k' x' hk hx=>h.2 (i+1) k' x' (by simpa using hk) (by simpa using hx)⟩⟩
theorem bare_prod {w:W} (h:w.bare=true):w=wProd w.ps:=by
 obtain ⟨s,a,b,c,i,u,p,ps⟩:=w
 simp only [W.bare,Bool.and_eq_true,Bool.not_eq_true',eqb_int,List.isEmpty_iff,q0_iff] at h
 obtain ⟨⟨⟨⟨⟨rfl,rfl,rfl⟩,rfl⟩,rfl⟩,rfl⟩,rfl⟩:=h
 rfl
theorem check_prod {S M:Nat} {ps:List Int} (hv:validRg 6 ps=true) {xs:List Sv} (h:Ofs S M ps xs):checkB 6 ps (wProd (xs.map Sv.w))=true:=by
 unfold checkB
 have h1:(wProd (xs.map Sv.w)).ps=xs.map Sv.w:=rfl
 have h2:(wProd (xs.map Sv.w)).bare=true:=rfl
 rw [hv,h1,h2,allB_of h]
 simp [h.1]
theorem ok_prod {S M:Nat} (hS:S≤1000) {ps:List Int} (hps:ps.length≤3) {xs:List Sv} (h:Ofs S M ps xs):(wProd (xs.map Sv.w)).OK:=by
 have hl:Lim []:=fun _ h=>(by cases h)
 refine .mk hl hl (by simp) (by simp) ⟨fun _ h=>(by cases h),by simp⟩ (by have:=h.1; simp; omega) (fun w hw => ?_)
 obtain ⟨x,hx,rfl⟩:=List.mem_map.1 hw
 obtain ⟨i,hi,hxi⟩:=List.mem_iff_getElem.1 hx
 have h1:xs[i]?=some x:=by rw [List.getElem?_eq_getElem hi,hxi]
 have h2:i<ps.length:=by rw [← h.1]; exact hi
 exact ok_of (h.2 i _ x (List.getElem?_eq_getElem h2) h1) hS
noncomputable def plusL (ps:List Int) (xs ys:List Sv):List Sv:=(ps.zip (xs.zip ys)).map fun p=>plusK p.1 p.2.1 p.2.2
theorem plusL_at {ps:List Int} {xs ys:List Sv} {i:Nat} {z:Sv} (h:(plusL ps xs ys)[i]?=some z):∃ k x y,ps[i]?=some k∧xs[i]?=some x∧ys[i]?=some y∧z=plusK k x y:=by
 unfold plusL at h
 rw [List.getElem?_map,Option.map_eq_some_iff] at h
 obtain ⟨⟨k,x,y⟩,h1,rfl⟩:=h
 rw [List.getElem?_zip_eq_some] at h1
 have h2:=h1.2
 rw [List.getElem?_zip_eq_some] at h2
 exact ⟨k,x,y,h1.1,h2.1,h2.2,rfl⟩
theorem plusL_ofs {S M:Nat} (hS:1≤S) {ps:List Int} (hs:∀ k ∈ ps,single k=true) {xs ys:List Sv} (hx:Ofs S M ps xs) (hy:Ofs S M ps ys):Ofs (S+S+1) (M+M) ps (plusL ps xs ys):=by
 refine ⟨by simp [plusL,hx.1,hy.1],fun i k z hk hz => ?_⟩
 obtain ⟨k',x,y,h1,h2,h3,rfl⟩:=plusL_at hz
 rw [hk] at h1
 cases h1
 exact plusK_of (hs k (List.mem_of_getElem? hk)) hS (hx.2 i k x hk h2) (hy.2 i k y hk h3)
theorem zero_ofs {ps:List Int} (hs:∀ k ∈ ps,single k=true):Ofs 3 8 ps (ps.map zeroK):=by
 refine ⟨by simp,fun i k x hk hx => ?_⟩
 rw [List.getElem?_map,hk] at hx
 cases hx
 exact zeroK_of (hs k (List.mem_of_getElem? hk)) 3 8 (by omega)
theorem getMap {xs:List Sv} {i:Nat} {w:W} (h:(xs.map Sv.w)[i]?=some w):∃ x,xs[i]?=some x∧w=x.w:=by
 rw [List.getElem?_map,Option.map_eq_some_iff] at h
 obtain ⟨x,h1,rfl⟩:=h
 exact ⟨x,h1,rfl⟩
theorem ca_plusOfs {S M:Nat} (hS:S≤1000) (hM:(M+M) * (S+1)≤50000) {ps:List Int} (hv:validRg 6 ps=true) (v w:W) {xs ys:List Sv} (hx:Ofs S M ps xs) (hy:Ofs S M ps ys)
  (h1:Ca E1 41 [.d (rgD 6 ps),.d v.d] (.d (wProd (xs.map Sv.w)).d,none)) (h2:Ca E1 41 [.d (rgD 6 ps),.d w.d] (.d (wProd (ys.map Sv.w)).d,none)) :
  Ca E1 14 [.d (rgD 6 ps),.d v.d,.d w.d] (.d (wProd ((plusL ps xs ys).map Sv.w)).d,none):=by
 obtain ⟨_,_,hs⟩:=rg6 hv
 refine ca_PlusP hv v w _ _ _ (by simp [hx.1]) (by simp [hy.1]) (by simp [plusL,hx.1,hy.1]) h1 h2 (fun i k x y z hk hxi hyi hzi => ?_)
 obtain ⟨x',g1,rfl⟩:=getMap hxi
 obtain ⟨y',g2,rfl⟩:=getMap hyi
 obtain ⟨z',g3,rfl⟩:=getMap hzi
 obtain ⟨k',x'',y'',f1,f2,f3,rfl⟩:=plusL_at g3
 rw [hk] at f1; rw [g1] at f2; rw [g2] at f3
 cases f1; cases f2; cases f3
 exact plusC_of (hs k (List.mem_of_getElem? hk)) hS hM (hx.2 i k _ hk g1) (hy.2 i k _ hk g2)
theorem value_ofs {ps:List Int} (hv:validRg 6 ps=true) {w:W} (ht:w.Typ) (hl:w.light=true):∃ xs,Ofs 3 8 ps xs∧Ca E1 41 [.d (rgD 6 ps),.d w.d] (.d (wProd (xs.map Sv.w)).d,none):=by
 obtain ⟨h3,_,hs⟩:=rg6 hv
 have hok:=light_ok w ht hl
 cases hc:checkB 6 ps w with
 | false =>
  refine ⟨ps.map zeroK,zero_ofs hs, ?_⟩
  have:=ca_value_no (z:=zeroW 6 ps) (by omega) hok hc (ca_zeroW hv)
  have e:zeroW 6 ps=wProd ((ps.map zeroK).map Sv.w):=by
   unfold zeroW
   rw [if_pos rfl,List.map_map]; rfl
  rw [e] at this
  exact this
 | true =>
  have hc':=hc
  unfold checkB at hc
  rw [hv] at hc
  simp only [Bool.true_and,ne_eq,not_true_eq_false,if_false,Bool.and_eq_true,beq_iff_eq] at hc
  obtain ⟨⟨h1,h2⟩,h4⟩:=hc
  obtain ⟨xs,hxs,hof⟩:=allB_some hs h1 (light_part ht hl) h4
  refine ⟨xs,hof, ?_⟩
  have:=ca_value_yes (by omega) hok hc'
  have e:=bare_prod h2
  rw [hxs] at e
  rw [e] at this ⊢
  exact this
theorem value_of1 {k:Int} (hk:single k=true) {w:W} (ht:w.Typ) (hl:w.light=true):∃ x:Sv,x.of k 3 8∧Ca E1 41 [.d (rgD k []),.d w.d] (.d x.w.d,none):=by
 have hok:=light_ok w ht hl
 have h6:k≠6:=by
  simp only [single,Bool.and_eq_true,decide_eq_true_eq] at hk
  omega
 have hv:validRg k []=true:=by
  unfold validRg
  rw [if_pos h6,hk]; rfl
 cases hc:checkB k [] w with
 | false =>
  refine ⟨zeroK k,zeroK_of hk 3 8 (by omega), ?_⟩
  have:=ca_value_no (z:=zeroW k []) (by simp) hok hc (ca_zeroW hv)
  unfold zeroW at this
  rw [if_neg h6] at this
  exact this
 | true =>
  have hc':=hc
  unfold checkB at hc
  rw [hv,Bool.true_and,if_pos h6] at hc
  obtain ⟨h1,h2⟩:=light_sm w ht hl
  obtain ⟨x,rfl,hx⟩:=of_chk hk (by omega) h1 h2 hc
  exact ⟨x,hx,ca_value_yes (by simp) hok hc'⟩
theorem ca_law8 (hA:Ca E1 11 [] (.d (.v (.bool true)),none)) (k:Int) (ps:List Int) (v w:W) (htv:v.Typ) (htw:w.Typ):Ca E1 8 [.d (rgD k ps),.d v.d,.d w.d] (.d (.v (.bool true)),none):=by
 by_cases h0:(decide ((ps.length:Int)≤6)&&v.light&&w.light)=true
 ·have h1:=h0
  simp only [Bool.and_eq_true,decide_eq_true_eq] at h1
  obtain ⟨⟨hl6,lv⟩,lw⟩:=h1
  have hov:=light_ok v htv lv
  cases hvr:validRg k ps with
  | false=>exact law8_dark hA k ps v w (fun _=>hov) (.inr (.inl ⟨h0,hvr⟩))
  | true =>
   cases hc:checkB k ps v with
   | true=>exact law8_dark hA k ps v w (fun _=>hov) (.inr (.inr ⟨h0,hvr,hc⟩))
   | false =>
    by_cases hk:k=6
    ·subst hk
     obtain ⟨h3,_,hs⟩:=rg6 hvr
     obtain ⟨xs,hxs,cw⟩:=value_ofs hvr htw lw
     have eZ:zeroW 6 ps=wProd ((ps.map zeroK).map Sv.w):=by
      unfold zeroW
      rw [if_pos rfl,List.map_map]; rfl
     have cv:=ca_value_no (z:=zeroW 6 ps) (by omega) hov hc (ca_zeroW hvr)
     rw [eZ] at cv
     have c26:=ca_zeroW hvr
     rw [eZ] at c26
     have hz:=zero_ofs hs
     have okZ:=ok_prod (S:=3) (by omega) h3 hz
     have cZ:=check_prod hvr hz
     have cvZ:=ca_value_yes (by omega) okZ cZ
     have hp:=plusL_ofs (by omega) hs hz hxs
     have eT:plusL ps (ps.map zeroK) xs=plusL ps (ps.map zeroK) xs:=rfl
     have c13:Ca E1 13 [.d (rgD 6 ps),.d w.d,.d v.d] (.d (wProd ((ps.map zeroK).map Sv.w)).d,none):=by
      refine ca_TimesP hvr w v _ _ _ (by simp [hxs.1]) (by simp) (by simp) cw cv (fun i k x y z hk hxi hyi hzi => ?_)
      obtain ⟨x',g1,rfl⟩:=getMap hxi
      obtain ⟨y',g2,rfl⟩:=getMap hyi
      obtain ⟨z',g3,rfl⟩:=getMap hzi
      rw [List.getElem?_map,hk] at g2 g3
      cases g2; cases g3
      have hsk:=hs k (List.mem_of_getElem? hk)
      have h5:=timesC_of hsk (S:=3) (M:=8) (by omega) (by omega) (hxs.2 i k _ hk g1) (zeroK_of hsk 3 8 (by omega))
      rw [times_zero hsk (hxs.2 i k _ hk g1)] at h5
      exact h5
     exact law8_light hA 6 ps v w _ _ (by omega) hov lv lw hvr hc (ok_prod (by omega) h3 hp) okZ c26 (ca_plusOfs (by omega) (by omega) hvr v w hz hxs cv cw) (ca_plusOfs (by omega) (by omega) hvr _ w hz hxs cvZ cw) c13 (check_prod hvr hp) cZ
    ·have hv0:=hvr
     unfold validRg at hv0
     rw [if_pos hk] at hv0
     simp only [Bool.and_eq_true,decide_eq_true_eq] at hv0
     obtain ⟨hsk,rfl⟩:=hv0
     obtain ⟨x,hx,cw⟩:=value_of1 hsk htw lw
     have c26:=ca_zeroW hvr
     have cv:=ca_value_no (z:=zeroW k []) (by simp) hov hc (ca_zeroW hvr)
     have eZ:zeroW k []=(zeroK k).w:=by
      unfold zeroW
      rw [if_neg hk]
     rw [eZ] at c26 cv
     have hz:=zeroK_of hsk 3 8 (by omega)
     have okZ:=ok_of hz (by omega)
     have chk:∀ {S M:Nat} {y:Sv},y.of k S M→checkB k [] y.w=true:=fun hy=>by
      unfold checkB
      rw [hvr,if_pos hk,chk_of hy]; rfl
     have cvZ:=ca_value_yes (k:=k) (ps:=[]) (by simp) okZ (chk hz)
     have hpl:=plusC_of hsk (S:=3) (M:=8) (by omega) (by omega) hz hx
     have hp:=plusK_of hsk (S:=3) (M:=8) (by omega) hz hx
     have hti:=timesC_of hsk (S:=3) (M:=8) (by omega) (by omega) hx hz
     rw [times_zero hsk hx] at hti
     exact law8_light hA k [] v w _ _ (by simp) hov lv lw hvr hc (ok_of hp (by omega)) okZ c26 (ca_PlusS hsk v w _ _ _ cv cw hpl) (ca_PlusS hsk _ w _ _ _ cvZ cw hpl) (ca_TimesS hsk w v _ _ _ cw cv hti) (chk hp) (chk hz)
 ·exact law8_dark hA k ps v w (fun h=>light_ok v htv h) (.inl (by simpa using h0))
end Fi.S
