/- What weights are worth. -/
import Derived.Test.YtonmcbnjifeagaaGreatDoorPZeroB
import Derived.Test.YtonmcbnjifeagaaGreatDoorPZeroC
import Derived.Test.YtonmcbnjifeagaaGreatDoorPZeroD
import Derived.Test.YtonmcbnjifeagaaGreatDoorPZero
import Derived.Test.YtonmcbnjifeagaaGreatDoorCN
import Derived.Test.YtonmcbnjifeagaaGreatDoorCM
import Derived.Test.YtonmcbnjifeagaaGreatDoorCF
import Derived.Test.YtonmcbnjifeagaaGreatDoorCH
set_option linter.unusedVariables false
set_option linter.unusedSimpArgs false
noncomputable section
namespace Fi.S
open Go Fi
set_option maxHeartbeats 8000000
theorem WS (k:Int)(ps:List Int)(h:aH k ps=true):gZ k ps=true:=by
 have five:∀ {a:Int},single a=true->a ∈ [1,2,3,4,5]:=by
  intro a ha;simp only[single,Bool.and_eq_true,decide_eq_true_eq]at ha;simp only[List.mem_cons,List.not_mem_nil,or_false];omega
 have main:∀ {f:Int->Bool} {x:Int},([1,2,3,4,5].all f)=true->x ∈ [1,2,3,4,5]->f x=true:=by
  intro f x h1 h2;exact List.all_eq_true.1 h1 _ h2
 unfold aH at h
 by_cases hk:k=6
 ·subst hk;rw[if_neg (by simp)]at h;simp only[Bool.and_eq_true,decide_eq_true_eq,List.all_eq_true]at h;obtain⟨⟨h2,h3⟩,hs⟩:=h
  match ps,h2,h3,hs with
  | [a,b],_,_,hs =>
   have ha:=five (hs a (by simp));have hb:=five (hs b (by simp));simp only[List.mem_cons,List.not_mem_nil,or_false]at ha;rcases ha with rfl|rfl|rfl|rfl|rfl
   ·exact main (f:=fun k=>gZ 6 [1,k]) (x:=b) ZP hb
   ·exact main (f:=fun k=>gZ 6 [2,k]) (x:=b) ZQ hb
   ·exact main (f:=fun k=>gZ 6 [3,k]) (x:=b) ZR hb
   ·exact main (f:=fun k=>gZ 6 [4,k]) (x:=b) ZT hb
   ·exact main (f:=fun k=>gZ 6 [5,k]) (x:=b) ZU hb
  | [a,b,c],_,_,hs =>
   have ha:=five (hs a (by simp));have hb:=five (hs b (by simp));have hc:=five (hs c (by simp));simp only[List.mem_cons,List.not_mem_nil,or_false]at ha hb;rcases ha with rfl|rfl|rfl|rfl|rfl<;>rcases hb with rfl|rfl|rfl|rfl|rfl
   ·exact main (f:=fun k=>gZ 6 [1,1,k]) (x:=c) WT hc
   ·exact main (f:=fun k=>gZ 6 [1,2,k]) (x:=c) WU hc
   ·exact main (f:=fun k=>gZ 6 [1,3,k]) (x:=c) WV hc
   ·exact main (f:=fun k=>gZ 6 [1,4,k]) (x:=c) WW hc
   ·exact main (f:=fun k=>gZ 6 [1,5,k]) (x:=c) WX hc
   ·exact main (f:=fun k=>gZ 6 [2,1,k]) (x:=c) WY hc
   ·exact main (f:=fun k=>gZ 6 [2,2,k]) (x:=c) WZ hc
   ·exact main (f:=fun k=>gZ 6 [2,3,k]) (x:=c) W9 hc
   ·exact main (f:=fun k=>gZ 6 [2,4,k]) (x:=c) W_ hc
   ·exact main (f:=fun k=>gZ 6 [2,5,k]) (x:=c) Xa hc
   ·exact main (f:=fun k=>gZ 6 [3,1,k]) (x:=c) Xb hc
   ·exact main (f:=fun k=>gZ 6 [3,2,k]) (x:=c) Xc hc
   ·exact main (f:=fun k=>gZ 6 [3,3,k]) (x:=c) Xd hc
   ·exact main (f:=fun k=>gZ 6 [3,4,k]) (x:=c) Xe hc
   ·exact main (f:=fun k=>gZ 6 [3,5,k]) (x:=c) Xf hc
   ·exact main (f:=fun k=>gZ 6 [4,1,k]) (x:=c) Xg hc
   ·exact main (f:=fun k=>gZ 6 [4,2,k]) (x:=c) Xh hc
   ·exact main (f:=fun k=>gZ 6 [4,3,k]) (x:=c) Xi hc
   ·exact main (f:=fun k=>gZ 6 [4,4,k]) (x:=c) Xj hc
   ·exact main (f:=fun k=>gZ 6 [4,5,k]) (x:=c) Xk hc
   ·exact main (f:=fun k=>gZ 6 [5,1,k]) (x:=c) Xl hc
   ·exact main (f:=fun k=>gZ 6 [5,2,k]) (x:=c) Xm hc
   ·exact main (f:=fun k=>gZ 6 [5,3,k]) (x:=c) Xn hc
   ·exact main (f:=fun k=>gZ 6 [5,4,k]) (x:=c) Xo hc
   ·exact main (f:=fun k=>gZ 6 [5,5,k]) (x:=c) Xp hc
 ·rw[if_pos hk]at h;simp only[Bool.and_eq_true,decide_eq_true_eq]at h;obtain⟨h1,rfl⟩:=h;exact main (f:=fun k=>gZ k []) (x:=k) abY (five h1)
def FM (k:Int)(ps:List Int):W:=if k=6 then cu (ps.map fun k=>(gX k).w) else(gX k).w
theorem Dq (k:Int):(gX k).w.d=Qc k:=by
 have h1:qs 0=false:=by decide
 have h2:qn 0=[]:=bU;have h3:qd 0=[]:=if_pos rfl;unfold gX Qc
 by_cases a:k=2
 ·subst a;rfl
 ·have e:(k==2)=false:=by simpa using a
  rw[if_neg a,e]
  by_cases b:k=4
  ·rw[if_pos b];rfl
  ·rw[if_neg b]
   by_cases c:k=5
   ·rw[if_pos c];rfl
   ·rw[if_neg c];simp only[Sv.w,W.d,W.ds,h1,h2,h3,LD,LL,PD,List.map_nil]
theorem T9 (k:Int)(ps:List Int):(FM k ps).d=Qd k ps:=by
 unfold FM Qd
 by_cases h:k=6
 ·rw[if_pos h,if_pos h];have:W.ds (ps.map fun k=>(gX k).w)=ps.map Qc:=by
   rw[W.dM,List.map_map];exact List.map_congr_left fun x _=>Dq x
  show D.a [.v (.bool false),.s 1 [],.s 1 [],.v (.int .i64 0),.v (.bool false),.v (.int .u64 0),.s 6 [],.s 8 (W.ds (ps.map fun k=>(gX k).w))]=_;rw[this]
 ·rw[if_neg h,if_neg h,Dq]
theorem Qe {k:Int}{ps:List Int}(h:aH k ps=true):Ca E1 26 [.d (aT k ps)] (.d (FM k ps).d,none):=by
 have h1:=WS k ps h;unfold gZ at h1;rw[Bool.and_eq_true]at h1;have h2:=h1.1;split at h2
 ·rename_i z hz;rw[T9,<-oW h2];exact Ca.dO (Ca.of hz)
 ·cases h2
noncomputable def ZV (v:Int):List aJ :=
 if (v.tdiv 5) % 2=1 then fF (bB (x_ (v % 5-2) 3)) (dU [(WN ((v.tdiv 10) % 3).toNat,1)] (bB (ZN v))) else bB (x_ (v % 5-2) 3)
noncomputable def Vf (k v:Int):Sv :=
 if k=1 then .q (ZN v) else if k=2 then(if v % 11=10 then .c true 0 else .c false (v % 11)) else if k=3 then .q (x_ (v % 7) 6) else if k=4 then .s (v % 16) else .p (ZV v)
theorem mE (x:Rat):(bB x).length<=1:=by unfold bB;split<;>simp
end Fi.S
namespace Fi.S
open Go Fi
set_option maxHeartbeats 8000000
def mdL:aD:=f16.body.r.r.r.l.r.bl.lp
def mdB (kk:Int)(ps:List Int):ae:=.box [.d (.v (.int .i64 kk)),.d (.s 1 (LK .i64 ps))]
def mdS (v:Int)(i:Nat)(t:FV)(L:List ae):St :=
 (st0 [.u,.d (.v (.int .i64 v)),.r (.loc 0) 0,.r (.loc 1) 0,.u,.r (.loc 2) 0,.d (.v (.int .i64 i)),.u,.u,.u,.u,.u,.u,.u,.u,t] L)
set_option maxRecDepth 4000
theorem LG (k:Int)(ps:List Int)(v w:W):Ca E0 22 [.d (aT k ps),.d v.d,.d w.d] (.d (.v (.bool (decide ((ps.length:Int)<=6)&&v.bI&&w.bI))),none):=by
 obtain⟨K,hK,h1,h2⟩:=((yL v).j ((yL w).any)).at 40;have t:=fun m=>bZ (AB 0 k ps) (show 0+40<=K+m by omega)
 clear hK;refine Ca.a_ (n:=K+60) ?_;rw[ah rfl (k22:E0.fn _=_) rfl];generalize v.bI=q1,w.bI=q2 at*;generalize decide ((ps.length:Int)<=6)=q0 at*;obtain⟨s,a,b,c,i,u,p,pp⟩:=v;obtain⟨s',a',b',c',i',u',p',pp'⟩:=w;simp only[W.d,PD,LD,aT]at*;generalize LK .i64 ps=l1,LL a=x1,LL b=x2,List.map Mo.d p=x5,W.ds pp=x7 at*;generalize LL a'=y1,LL b'=y2,List.map Mo.d p'=y5,W.ds pp'=y7 at*;cases q0<;>cases q1<;>cases q2<;>simp -implicitDefEqProofs [f22,h1,h2,t]
end Fi.S
namespace Fi.S
open Go Fi
set_option maxHeartbeats 8000000
theorem zC:∀ w:W,w.uZ->w.bI=true->w.Sm 3/\w.P8.length<=8
 | .mk s a b c i u p ps,ht,hl=>by
  rw[nC]at hl;simp only[Bool.and_eq_true,decide_eq_true_eq]at hl;obtain⟨⟨⟨⟨⟨h1,h2⟩,h3⟩,h4⟩,h5⟩,h6⟩:=hl;cases ht with
  | mk ha hb hp hu hw =>
   refine⟨.mk ha hb (by omega) (by omega) (fun m hm => ?_) hu (fun w hm=>(zC w (hw w hm) (List.all_eq_true.1 h6 w hm)).1),h3⟩;have:=List.all_eq_true.1 h5 m hm;simp only[Mo.bI,Bool.and_eq_true,decide_eq_true_eq]at this;exact⟨(hp m hm).1,(hp m hm).2,by omega,by omega⟩
termination_by w=>sizeOf w
decreasing_by
 have:=List.sizeOf_lt_of_mem hm;simp;omega
theorem Io {w:W}(ht:w.uZ)(hl:w.bI=true):∀ x ∈ w.ps,x.Sm 3/\x.P8.length<=8:=by
 obtain⟨s,a,b,c,i,u,p,ps⟩:=w;rw[nC]at hl;simp only[Bool.and_eq_true,decide_eq_true_eq]at hl;cases ht with
 | mk ha hb hp hu hw=>exact fun x hx=>zC x (hw x hx) (List.all_eq_true.1 hl.2 x hx)
def lY (S M:Nat)(ps:List Int)(xs:List Sv):Prop:=xs.length=ps.length/\∀ (i:Nat) (k:Int) (x:Sv),ps[i]?=some k->xs[i]?=some x->x.of k S M
theorem BG:∀ {ps:List Int} {ws:List W},(∀ k ∈ ps,single k=true)->ws.length=ps.length->(∀ w ∈ ws,w.Sm 3/\w.P8.length<=8)->oq ps ws=true->∃ xs:List Sv,ws=xs.map Sv.w/\lY 3 8 ps xs
 | [],[],_,_,_,_=>⟨[],rfl,rfl,fun i k x h=>by simp at h⟩
 | [],_::_,_,h,_,_=>by simp at h
 | _::_,[],_,h,_,_=>by simp at h
 | k::ps,w::ws,hs,hl,hw,h=>by
  simp only[oq,Bool.and_eq_true]at h;obtain⟨x,rfl,hx⟩:=P9 (hs k (List.mem_cons_self ..)) (by omega) (hw w (List.mem_cons_self ..)).1 (hw w (List.mem_cons_self ..)).2 h.1;obtain⟨xs,rfl,h1,h2⟩:=BG (fun k hk=>hs k (List.mem_cons_of_mem _ hk)) (by simpa using hl) (fun w h'=>hw w (List.mem_cons_of_mem _ h')) h.2;refine⟨x::xs,rfl,by simp[h1],fun i k' x' hk hx' => ?_⟩;cases i with
  | zero=>cases hk;cases hx';exact hx
  | succ i=>exact h2 i k' x' (by simpa using hk) (by simpa using hx')
theorem JW {S M:Nat}:∀ {ps:List Int} {xs:List Sv},lY S M ps xs->oq ps (xs.map Sv.w)=true
 | [],[],_=>rfl
 | [],_::_,h=>by simp[lY]at h
 | _::_,[],h=>by simp[lY]at h
 | k::ps,x::xs,h=>by
  simp only[List.map_cons,oq,Bool.and_eq_true];exact⟨P_ (h.2 0 k x rfl rfl),JW ⟨by simpa using h.1,fun i k' x' hk hx=>h.2 (i+1) k' x' (by simpa using hk) (by simpa using hx)⟩⟩
theorem LH {w:W}(h:w.bare=true):w=cu w.ps:=by
 obtain⟨s,a,b,c,i,u,p,ps⟩:=w;simp only[W.bare,Bool.and_eq_true,Bool.not_eq_true',qy,List.isEmpty_iff,Dl]at h;obtain⟨⟨⟨⟨⟨rfl,rfl,rfl⟩,rfl⟩,rfl⟩,rfl⟩,rfl⟩:=h;rfl
theorem zD {S M:Nat}{ps:List Int}(hv:aH 6 ps=true){xs:List Sv}(h:lY S M ps xs):iJ 6 ps (cu (xs.map Sv.w))=true:=by
 unfold iJ;have h1:(cu (xs.map Sv.w)).ps=xs.map Sv.w:=rfl;have h2:(cu (xs.map Sv.w)).bare=true:=rfl;rw[hv,h1,h2,JW h];simp[h.1]
theorem JX {S M:Nat}(hS:S<=100000){ps:List Int}(hps:ps.length<=3){xs:List Sv}(h:lY S M ps xs):(cu (xs.map Sv.w)).OK:=by
 have hl:bF []:=fun _ h=>(by cases h)
 refine .mk hl hl (by simp) (by simp) ⟨fun _ h=>(by cases h),by simp⟩ (by have:=h.1;simp;omega) (fun w hw => ?_);obtain⟨x,hx,rfl⟩:=List.mem_map.1 hw;obtain⟨i,hi,hxi⟩:=List.mem_iff_getElem.1 hx;have h1:xs[i]?=some x:=by rw[List.getElem?_eq_getElem hi,hxi]
 have h2:i<ps.length:=by rw[<-h.1];exact hi
 exact Qa (h.2 i _ x (List.getElem?_eq_getElem h2) h1) hS
noncomputable def qW (ps:List Int) (xs ys:List Sv):List Sv:=(ps.zip (xs.zip ys)).map fun p=>eU p.1 p.2.1 p.2.2
theorem FN {ps:List Int}{xs ys:List Sv}{i:Nat}{z:Sv}(h:(qW ps xs ys)[i]?=some z):∃ k x y,ps[i]?=some k/\xs[i]?=some x/\ys[i]?=some y/\z=eU k x y:=by
 unfold qW at h;rw[List.getElem?_map,Option.map_eq_some_iff]at h;obtain⟨⟨k,x,y⟩,h1,rfl⟩:=h;rw[List.getElem?_zip_eq_some]at h1;have h2:=h1.2;rw[List.getElem?_zip_eq_some]at h2;exact⟨k,x,y,h1.1,h2.1,h2.2,rfl⟩
theorem LJ {S M:Nat}(hS:1<=S){ps:List Int}(hs:∀ k ∈ ps,single k=true){xs ys:List Sv}(hx:lY S M ps xs)(hy:lY S M ps ys):lY (S+S+1) (M+M) ps (qW ps xs ys):=by
 refine⟨by simp[qW,hx.1,hy.1],fun i k z hk hz => ?_⟩;obtain⟨k',x,y,h1,h2,h3,rfl⟩:=FN hz;rw[hk]at h1;cases h1;exact Qb (hs k (List.mem_of_getElem? hk)) hS (hx.2 i k x hk h2) (hy.2 i k y hk h3)
theorem vH {xs:List Sv}{i:Nat}{w:W}(h:(xs.map Sv.w)[i]?=some w):∃ x,xs[i]?=some x/\w=x.w:=by
 rw[List.getElem?_map,Option.map_eq_some_iff]at h;obtain⟨x,h1,rfl⟩:=h;exact⟨x,h1,rfl⟩
theorem Ip {S M:Nat}(hS:S<=100000)(hM:(M+M)*(S+1)<=5000000){ps:List Int}(hv:aH 6 ps=true)(v w:W){xs ys:List Sv}(hx:lY S M ps xs)(hy:lY S M ps ys)
  (h1:Ca E1 41 [.d (aT 6 ps),.d v.d] (.d (cu (xs.map Sv.w)).d,none)) (h2:Ca E1 41 [.d (aT 6 ps),.d w.d] (.d (cu (ys.map Sv.w)).d,none)) :
  Ca E1 14 [.d (aT 6 ps),.d v.d,.d w.d] (.d (cu ((qW ps xs ys).map Sv.w)).d,none):=by
 obtain⟨_,_,hs⟩:=P6 hv;refine P7 hv v w _ _ _ (by simp[hx.1]) (by simp[hy.1]) (by simp[qW,hx.1,hy.1]) h1 h2 (fun i k x y z hk hxi hyi hzi => ?_);obtain⟨x',g1,rfl⟩:=vH hxi;obtain⟨y',g2,rfl⟩:=vH hyi;obtain⟨z',g3,rfl⟩:=vH hzi;obtain⟨k',x'',y'',f1,f2,f3,rfl⟩:=FN g3;rw[hk]at f1;rw[g1]at f2;rw[g2]at f3;cases f1;cases f2;cases f3;exact FK (hs k (List.mem_of_getElem? hk)) hS hM (hx.2 i k _ hk g1) (hy.2 i k _ hk g2)
end Fi.S
