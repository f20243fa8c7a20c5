import Derived.Test.YthojoinggmjklaaGreatDoorPZeroB
import Derived.Test.YthojoinggmjklaaGreatDoorPZeroC
import Derived.Test.YthojoinggmjklaaGreatDoorPZeroD
import Derived.Test.YthojoinggmjklaaGreatDoorCM
set_option linter.unusedVariables false
set_option linter.unusedSimpArgs false
noncomputable section
namespace Fi.S
open Go Fi
set_option maxHeartbeats 8000000
theorem YH (k:Int)(ps:List Int)(h:aQ k ps=true):iC k ps=true:=by
 have five:∀ {a:Int},single a=true->a ∈ [1,2,3,4,5]:=by
  intro a ha;simp only[single,Bool.and_eq_true,decide_eq_true_eq]at ha;simp only[List.mem_cons,List.not_mem_nil,or_false];omega
 have main:∀ {f:Int->Bool} {x:Int},([1,2,3,4,5].all f)=true->x ∈ [1,2,3,4,5]->f x=true:=by
  intro f x h1 h2;exact List.all_eq_true.1 h1 _ h2
 unfold aQ at h
 by_cases hk:k=6
 ·subst hk;rw[if_neg (by simp)]at h;simp only[Bool.and_eq_true,decide_eq_true_eq,List.all_eq_true]at h;obtain⟨⟨h2,h3⟩,hs⟩:=h
  match ps,h2,h3,hs with
  | [a,b],_,_,hs =>
   have ha:=five (hs a (by simp));have hb:=five (hs b (by simp));simp only[List.mem_cons,List.not_mem_nil,or_false]at ha;rcases ha with rfl|rfl|rfl|rfl|rfl
   ·exact main (f:=fun k=>iC 6 [1,k]) (x:=b) abM hb
   ·exact main (f:=fun k=>iC 6 [2,k]) (x:=b) abN hb
   ·exact main (f:=fun k=>iC 6 [3,k]) (x:=b) abO hb
   ·exact main (f:=fun k=>iC 6 [4,k]) (x:=b) abP hb
   ·exact main (f:=fun k=>iC 6 [5,k]) (x:=b) abQ hb
  | [a,b,c],_,_,hs =>
   have ha:=five (hs a (by simp));have hb:=five (hs b (by simp));have hc:=five (hs c (by simp));simp only[List.mem_cons,List.not_mem_nil,or_false]at ha hb;rcases ha with rfl|rfl|rfl|rfl|rfl<;>rcases hb with rfl|rfl|rfl|rfl|rfl
   ·exact main (f:=fun k=>iC 6 [1,1,k]) (x:=c) YI hc
   ·exact main (f:=fun k=>iC 6 [1,2,k]) (x:=c) YJ hc
   ·exact main (f:=fun k=>iC 6 [1,3,k]) (x:=c) YK hc
   ·exact main (f:=fun k=>iC 6 [1,4,k]) (x:=c) YL hc
   ·exact main (f:=fun k=>iC 6 [1,5,k]) (x:=c) YM hc
   ·exact main (f:=fun k=>iC 6 [2,1,k]) (x:=c) YN hc
   ·exact main (f:=fun k=>iC 6 [2,2,k]) (x:=c) YO hc
   ·exact main (f:=fun k=>iC 6 [2,3,k]) (x:=c) YP hc
   ·exact main (f:=fun k=>iC 6 [2,4,k]) (x:=c) YQ hc
   ·exact main (f:=fun k=>iC 6 [2,5,k]) (x:=c) YR hc
   ·exact main (f:=fun k=>iC 6 [3,1,k]) (x:=c) YS hc
   ·exact main (f:=fun k=>iC 6 [3,2,k]) (x:=c) YT hc
   ·exact main (f:=fun k=>iC 6 [3,3,k]) (x:=c) YU hc
   ·exact main (f:=fun k=>iC 6 [3,4,k]) (x:=c) YV hc
   ·exact main (f:=fun k=>iC 6 [3,5,k]) (x:=c) YW hc
   ·exact main (f:=fun k=>iC 6 [4,1,k]) (x:=c) YX hc
   ·exact main (f:=fun k=>iC 6 [4,2,k]) (x:=c) YY hc
   ·exact main (f:=fun k=>iC 6 [4,3,k]) (x:=c) YZ hc
   ·exact main (f:=fun k=>iC 6 [4,4,k]) (x:=c) Y0 hc
   ·exact main (f:=fun k=>iC 6 [4,5,k]) (x:=c) Y1 hc
   ·exact main (f:=fun k=>iC 6 [5,1,k]) (x:=c) Y2 hc
   ·exact main (f:=fun k=>iC 6 [5,2,k]) (x:=c) Y3 hc
   ·exact main (f:=fun k=>iC 6 [5,3,k]) (x:=c) Y4 hc
   ·exact main (f:=fun k=>iC 6 [5,4,k]) (x:=c) Y5 hc
   ·exact main (f:=fun k=>iC 6 [5,5,k]) (x:=c) Y6 hc
 ·rw[if_pos hk]at h;simp only[Bool.and_eq_true,decide_eq_true_eq]at h;obtain⟨h1,rfl⟩:=h;exact main (f:=fun k=>iC k []) (x:=k) ael (five h1)
def Gn (k:Int)(ps:List Int):W:=if k=6 then gu (ps.map fun k=>(gD k).w) else(gD k).w
theorem KE (k:Int):(gD k).w.d=QX k:=by
 have h1:qs 0=false:=by decide
 have h2:qn 0=[]:=bW;have h3:qd 0=[]:=if_pos rfl;unfold gD QX
 by_cases a:k=2
 ·subst a;rfl
 ·have e:(k==2)=false:=by simpa using a
  rw[if_neg a,e]
  by_cases b:k=4
  ·rw[if_pos b];rfl
  ·rw[if_neg b]
   by_cases c:k=5
   ·rw[if_pos c];rfl
   ·rw[if_neg c];simp only[Sv.w,W.d,W.ds,h1,h2,h3,LD,LL,PD,List.map_nil]
theorem Ve (k:Int)(ps:List Int):(Gn k ps).d=QY k ps:=by
 unfold Gn QY
 by_cases h:k=6
 ·rw[if_pos h,if_pos h];have:W.ds (ps.map fun k=>(gD k).w)=ps.map QX:=by
   rw[W.fA,List.map_map];exact List.map_congr_left fun x _=>KE x
  show D.a [.v (.bool false),.s 1 [],.s 1 [],.v (.int .i64 0),.v (.bool false),.v (.int .u64 0),.s 6 [],.s 8 (W.ds (ps.map fun k=>(gD k).w))]=_;rw[this]
 ·rw[if_neg h,if_neg h,KE]
theorem QZ {k:Int}{ps:List Int}(h:aQ k ps=true):Ca E1 26 [.d (bG k ps)] (.d (Gn k ps).d,none):=by
 have h1:=YH k ps h;unfold iC at h1;rw[Bool.and_eq_true]at h1;have h2:=h1.1;split at h2
 ·rename_i z hz;rw[Ve,<-zU h2];exact Ca.iP (Ca.of hz)
 ·cases h2
end Fi.S
namespace Fi.S
open Go Fi
set_option maxHeartbeats 8000000
end Fi.S
namespace Fi.S
open Go Fi
set_option maxHeartbeats 8000000
set_option maxRecDepth 4000
theorem Ad:∀ w:W,w.nJ->w.bI=true->w.Sm 3/\w.QT.length<=8
 | .mk s a b c i u p ps,ht,hl=>by
  rw[nK]at hl;simp only[Bool.and_eq_true,decide_eq_true_eq]at hl;obtain⟨⟨⟨⟨⟨h1,h2⟩,h3⟩,h4⟩,h5⟩,h6⟩:=hl;cases ht with
  | mk ha hb hp hu hw =>
   refine⟨.mk ha hb (by omega) (by omega) (fun m hm => ?_) hu (fun w hm=>(Ad w (hw w hm) (List.all_eq_true.1 h6 w hm)).1),h3⟩;have:=List.all_eq_true.1 h5 m hm;simp only[Mo.bI,Bool.and_eq_true,decide_eq_true_eq]at this;exact⟨(hp m hm).1,(hp m hm).2,by omega,by omega⟩
termination_by w=>sizeOf w
decreasing_by
 have:=List.sizeOf_lt_of_mem hm;simp;omega
theorem Ji {w:W}(ht:w.nJ)(hl:w.bI=true):∀ x ∈ w.ps,x.Sm 3/\x.QT.length<=8:=by
 obtain⟨s,a,b,c,i,u,p,ps⟩:=w;rw[nK]at hl;simp only[Bool.and_eq_true,decide_eq_true_eq]at hl;cases ht with
 | mk ha hb hp hu hw=>exact fun x hx=>Ad x (hw x hx) (List.all_eq_true.1 hl.2 x hx)
def oU (S M:Nat)(ps:List Int)(xs:List Sv):Prop:=xs.length=ps.length/\∀ (i:Nat) (k:Int) (x:Sv),ps[i]?=some k->xs[i]?=some x->x.of k S M
theorem Cw:∀ {ps:List Int} {ws:List W},(∀ k ∈ ps,single k=true)->ws.length=ps.length->(∀ w ∈ ws,w.Sm 3/\w.QT.length<=8)->oP ps ws=true->∃ xs:List Sv,ws=xs.map Sv.w/\oU 3 8 ps xs
 | [],[],_,_,_,_=>⟨[],rfl,rfl,fun i k x h=>by simp at h⟩
 | [],_::_,_,h,_,_=>by simp at h
 | _::_,[],_,h,_,_=>by simp at h
 | k::ps,w::ws,hs,hl,hw,h=>by
  simp only[oP,Bool.and_eq_true]at h;obtain⟨x,rfl,hx⟩:=QU (hs k (List.mem_cons_self ..)) (by omega) (hw w (List.mem_cons_self ..)).1 (hw w (List.mem_cons_self ..)).2 h.1;obtain⟨xs,rfl,h1,h2⟩:=Cw (fun k hk=>hs k (List.mem_cons_of_mem _ hk)) (by simpa using hl) (fun w h'=>hw w (List.mem_cons_of_mem _ h')) h.2;refine⟨x::xs,rfl,by simp[h1],fun i k' x' hk hx' => ?_⟩;cases i with
  | zero=>cases hk;cases hx';exact hx
  | succ i=>exact h2 i k' x' (by simpa using hk) (by simpa using hx')
theorem KF {S M:Nat}:∀ {ps:List Int} {xs:List Sv},oU S M ps xs->oP ps (xs.map Sv.w)=true
 | [],[],_=>rfl
 | [],_::_,h=>by simp[oU]at h
 | _::_,[],h=>by simp[oU]at h
 | k::ps,x::xs,h=>by
  simp only[List.map_cons,oP,Bool.and_eq_true];exact⟨QV (h.2 0 k x rfl rfl),KF ⟨by simpa using h.1,fun i k' x' hk hx=>h.2 (i+1) k' x' (by simpa using hk) (by simpa using hx)⟩⟩
theorem MG {w:W}(h:w.bare=true):w=gu w.ps:=by
 obtain⟨s,a,b,c,i,u,p,ps⟩:=w;simp only[W.bare,Bool.and_eq_true,Bool.not_eq_true',qY,List.isEmpty_iff,Eb]at h;obtain⟨⟨⟨⟨⟨rfl,rfl,rfl⟩,rfl⟩,rfl⟩,rfl⟩,rfl⟩:=h;rfl
theorem Ae {S M:Nat}{ps:List Int}(hv:aQ 6 ps=true){xs:List Sv}(h:oU S M ps xs):bM 6 ps (gu (xs.map Sv.w))=true:=by
 unfold bM;have h1:(gu (xs.map Sv.w)).ps=xs.map Sv.w:=rfl;have h2:(gu (xs.map Sv.w)).bare=true:=rfl;rw[hv,h1,h2,KF h];simp[h.1]
theorem KG {S M:Nat}(hS:S<=1000){ps:List Int}(hps:ps.length<=3){xs:List Sv}(h:oU S M ps xs):(gu (xs.map Sv.w)).OK:=by
 have hl:bK []:=fun _ h=>(by cases h)
 refine .mk hl hl (by simp) (by simp) ⟨fun _ h=>(by cases h),by simp⟩ (by have:=h.1;simp;omega) (fun w hw => ?_);obtain⟨x,hx,rfl⟩:=List.mem_map.1 hw;obtain⟨i,hi,hxi⟩:=List.mem_iff_getElem.1 hx;have h1:xs[i]?=some x:=by rw[List.getElem?_eq_getElem hi,hxi]
 have h2:i<ps.length:=by rw[<-h.1];exact hi
 exact QW (h.2 i _ x (List.getElem?_eq_getElem h2) h1) hS
noncomputable def kE (ps:List Int) (xs ys:List Sv):List Sv:=(ps.zip (xs.zip ys)).map fun p=>dS p.1 p.2.1 p.2.2
theorem Af {ps:List Int}{xs ys:List Sv}{i:Nat}{z:Sv}(h:(kE ps xs ys)[i]?=some z):∃ k x y,ps[i]?=some k/\xs[i]?=some x/\ys[i]?=some y/\z=dS k x y:=by
 unfold kE at h;rw[List.getElem?_map,Option.map_eq_some_iff]at h;obtain⟨⟨k,x,y⟩,h1,rfl⟩:=h;rw[List.getElem?_zip_eq_some]at h1;have h2:=h1.2;rw[List.getElem?_zip_eq_some]at h2;exact⟨k,x,y,h1.1,h2.1,h2.2,rfl⟩
theorem Jj {xs:List Sv}{i:Nat}{w:W}(h:(xs.map Sv.w)[i]?=some w):∃ x,xs[i]?=some x/\w=x.w:=by
 rw[List.getElem?_map,Option.map_eq_some_iff]at h;obtain⟨x,h1,rfl⟩:=h;exact⟨x,h1,rfl⟩
theorem Jk {S M:Nat}(hS:S<=1000)(hM:(M+M)*(S+1)<=50000){ps:List Int}(hv:aQ 6 ps=true)(v w:W){xs ys:List Sv}(hx:oU S M ps xs)(hy:oU S M ps ys)
  (h1:Ca E1 41 [.d (bG 6 ps),.d v.d] (.d (gu (xs.map Sv.w)).d,none)) (h2:Ca E1 41 [.d (bG 6 ps),.d w.d] (.d (gu (ys.map Sv.w)).d,none)) :
  Ca E1 14 [.d (bG 6 ps),.d v.d,.d w.d] (.d (gu ((kE ps xs ys).map Sv.w)).d,none):=by
 obtain⟨_,_,hs⟩:=YG hv;refine QR hv v w _ _ _ (by simp[hx.1]) (by simp[hy.1]) (by simp[kE,hx.1,hy.1]) h1 h2 (fun i k x y z hk hxi hyi hzi => ?_);obtain⟨x',g1,rfl⟩:=Jj hxi;obtain⟨y',g2,rfl⟩:=Jj hyi;obtain⟨z',g3,rfl⟩:=Jj hzi;obtain⟨k',x'',y'',f1,f2,f3,rfl⟩:=Af g3;rw[hk]at f1;rw[g1]at f2;rw[g2]at f3;cases f1;cases f2;cases f3;exact Gm (hs k (List.mem_of_getElem? hk)) hS hM (hx.2 i k _ hk g1) (hy.2 i k _ hk g2)
end Fi.S
