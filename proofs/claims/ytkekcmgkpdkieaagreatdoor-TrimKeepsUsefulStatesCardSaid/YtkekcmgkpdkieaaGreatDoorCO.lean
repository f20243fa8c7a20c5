import Derived.Test.YtkekcmgkpdkieaaGreatDoorPZeroB
import Derived.Test.YtkekcmgkpdkieaaGreatDoorPZeroC
import Derived.Test.YtkekcmgkpdkieaaGreatDoorPZeroD
import Derived.Test.YtkekcmgkpdkieaaGreatDoorCM
set_option linter.unusedVariables false
set_option linter.unusedSimpArgs false
noncomputable section
namespace Fi.S
open Go Fi
set_option maxHeartbeats 8000000
set_option maxRecDepth 10000
theorem abp (k:Int)(ps:List Int)(h:aR k ps=true):iT k ps=true:=by
 have five:∀ {a:Int},single a=true->a ∈ [1,2,3,4,5]:=by
  intro a ha;simp only[single,Qa2,decide_eq_true_eq]at ha;simp only[Qg1,Xq0,or_false];omega
 have main:∀ {f:Int->Bool} {x:Int},([1,2,3,4,5].all f)=true->x ∈ [1,2,3,4,5]->f x=true:=by
  intro f x h1 h2;exact Qf0.1 h1 _ h2
 unfold aR at h
 by_cases hk:k=6
 ·subst hk;rw[if_neg aC]at h;simp only[Qa2,decide_eq_true_eq,Qf0]at h;obtain⟨⟨h2,h3⟩,hs⟩:=h
  match ps,h2,h3,hs with
  | [a,b],_,_,hs =>
   have ha:=five (hs a aC);have hb:=five (hs b aC);simp only[Qg1,Xq0,or_false]at ha;rcases ha with rfl|rfl|rfl|rfl|rfl
   ·exact main (f:=fun k=>iT 6 [1,k]) (x:=b) aeE hb
   ·exact main (f:=fun k=>iT 6 [2,k]) (x:=b) aeF hb
   ·exact main (f:=fun k=>iT 6 [3,k]) (x:=b) aeG hb
   ·exact main (f:=fun k=>iT 6 [4,k]) (x:=b) aeH hb
   ·exact main (f:=fun k=>iT 6 [5,k]) (x:=b) aeI hb
  | [a,b,c],_,_,hs =>
   have ha:=five (hs a aC);have hb:=five (hs b aC);have hc:=five (hs c aC);simp only[Qg1,Xq0,or_false]at ha hb;rcases ha with rfl|rfl|rfl|rfl|rfl<;>rcases hb with rfl|rfl|rfl|rfl|rfl
   ·exact main (f:=fun k=>iT 6 [1,1,k]) (x:=c) abq hc
   ·exact main (f:=fun k=>iT 6 [1,2,k]) (x:=c) abr hc
   ·exact main (f:=fun k=>iT 6 [1,3,k]) (x:=c) abt hc
   ·exact main (f:=fun k=>iT 6 [1,4,k]) (x:=c) abu hc
   ·exact main (f:=fun k=>iT 6 [1,5,k]) (x:=c) abv hc
   ·exact main (f:=fun k=>iT 6 [2,1,k]) (x:=c) abw hc
   ·exact main (f:=fun k=>iT 6 [2,2,k]) (x:=c) abx hc
   ·exact main (f:=fun k=>iT 6 [2,3,k]) (x:=c) aby hc
   ·exact main (f:=fun k=>iT 6 [2,4,k]) (x:=c) abz hc
   ·exact main (f:=fun k=>iT 6 [2,5,k]) (x:=c) abA hc
   ·exact main (f:=fun k=>iT 6 [3,1,k]) (x:=c) abB hc
   ·exact main (f:=fun k=>iT 6 [3,2,k]) (x:=c) abC hc
   ·exact main (f:=fun k=>iT 6 [3,3,k]) (x:=c) abD hc
   ·exact main (f:=fun k=>iT 6 [3,4,k]) (x:=c) abE hc
   ·exact main (f:=fun k=>iT 6 [3,5,k]) (x:=c) abF hc
   ·exact main (f:=fun k=>iT 6 [4,1,k]) (x:=c) abG hc
   ·exact main (f:=fun k=>iT 6 [4,2,k]) (x:=c) abH hc
   ·exact main (f:=fun k=>iT 6 [4,3,k]) (x:=c) abI hc
   ·exact main (f:=fun k=>iT 6 [4,4,k]) (x:=c) abJ hc
   ·exact main (f:=fun k=>iT 6 [4,5,k]) (x:=c) abK hc
   ·exact main (f:=fun k=>iT 6 [5,1,k]) (x:=c) abL hc
   ·exact main (f:=fun k=>iT 6 [5,2,k]) (x:=c) abM hc
   ·exact main (f:=fun k=>iT 6 [5,3,k]) (x:=c) abN hc
   ·exact main (f:=fun k=>iT 6 [5,4,k]) (x:=c) abO hc
   ·exact main (f:=fun k=>iT 6 [5,5,k]) (x:=c) abP hc
 ·rw[if_pos hk]at h;simp only[Qa2,decide_eq_true_eq]at h;obtain⟨h1,rfl⟩:=h;exact main (f:=fun k=>iT k []) (x:=k) ahc (five h1)
def Ij (k:Int)(ps:List Int):W:=if k=6 then gW (ps.map fun k=>(gX k).w) else(gX k).w
theorem MC (k:Int):(gX k).w.d=Tj k:=by
 have h1:qs 0=false:=fV;have h2:qn 0=[]:=df;have h3:qd 0=[]:=if_pos rfl;unfold gX Tj
 by_cases a:k=2
 ·subst a;rfl
 ·have e:(k==2)=false:=by simpa using a
  rw[if_neg a,e]
  by_cases b:k=4
  ·rw[if_pos b];rfl
  ·rw[if_neg b]
   by_cases c:k=5
   ·rw[if_pos c];rfl
   ·rw[if_neg c];simp only[Sv.w,W.d,W.ds,h1,h2,h3,LD,LL,PD,Qc2]
theorem XQ (k:Int)(ps:List Int):(Ij k ps).d=Tk k ps:=by
 unfold Ij Tk
 by_cases h:k=6
 ·rw[if_pos h,if_pos h];have:W.ds (ps.map fun k=>(gX k).w)=ps.map Tj:=by
   rw[W.fI,Xg0];exact Xr1 fun x _=>MC x
  show D.a [vB false,.s 1 [],.s 1 [],vI 0,vB false,.v (.int .u64 0),.s 6 [],.s 8 (W.ds (ps.map fun k=>(gX k).w))]=_;rw[this]
 ·rw[if_neg h,if_neg h,MC]
theorem Tm {k:Int}{ps:List Int}(h:aR k ps=true):Ca E1 26 [.d (bD k ps)] (.d (Ij k ps).d,none):=by
 have h1:=abp k ps h;unfold iT at h1;rw[Qa2]at h1;have h2:=h1.1;split at h2
 ·rename_i z hz;rw[XQ,<-Ba h2];exact Ca.jg (Ca.of hz)
 ·cases h2
set_option maxRecDepth 4000
theorem Bo:∀ w:W,w.oP->w.bM=true->w.Sm 3/\w.Te.length<=8
 | .mk s a b c i u p ps,ht,hl=>by
  rw[oQ]at hl;simp only[Qa2,decide_eq_true_eq]at hl;obtain⟨⟨⟨⟨⟨h1,h2⟩,h3⟩,h4⟩,h5⟩,h6⟩:=hl;cases ht with
  | mk ha hb hp hu hw =>
   refine⟨.mk ha hb ae ae (fun m hm => ?_) hu (fun w hm=>(Bo w (hw w hm) (Qf0.1 h6 w hm)).1),h3⟩;have:=Qf0.1 h5 m hm;simp only[Mo.bM,Qa2,decide_eq_true_eq]at this;exact⟨(hp m hm).1,(hp m hm).2,ae,ae⟩
termination_by w=>sizeOf w
decreasing_by
 have:=Xo2 hm;simp;omega
theorem KJ {w:W}(ht:w.oP)(hl:w.bM=true):∀ x ∈ w.ps,x.Sm 3/\x.Te.length<=8:=by
 obtain⟨s,a,b,c,i,u,p,ps⟩:=w;rw[oQ]at hl;simp only[Qa2,decide_eq_true_eq]at hl;cases ht with
 | mk ha hb hp hu hw=>exact fun x hx=>Bo x (hw x hx) (Qf0.1 hl.2 x hx)
def mK (S M:Nat)(ps:List Int)(xs:List Sv):Prop:=xs.length=ps.length/\∀ (i:Nat) (k:Int) (x:Sv),ps[i]?=some k->xs[i]?=some x->x.of k S M
theorem Ed:∀ {ps:List Int} {ws:List W},(∀ k ∈ ps,single k=true)->ws.length=ps.length->(∀ w ∈ ws,w.Sm 3/\w.Te.length<=8)->qE ps ws=true->∃ xs:List Sv,ws=xs.map Sv.w/\mK 3 8 ps xs
 | [],[],_,_,_,_=>⟨[],rfl,rfl,fun i k x h=>by simp at h⟩
 | [],_::_,_,h,_,_=>by simp at h
 | _::_,[],_,h,_,_=>by simp at h
 | k::ps,w::ws,hs,hl,hw,h=>by
  simp only[qE,Qa2]at h;obtain⟨x,rfl,hx⟩:=Tf (hs k (Qi0 ..)) ae (hw w (Qi0 ..)).1 (hw w (Qi0 ..)).2 h.1;obtain⟨xs,rfl,h1,h2⟩:=Ed (fun k hk=>hs k (Qf1 _ hk)) (by simpa using hl) (fun w h'=>hw w (Qf1 _ h')) h.2;refine⟨x::xs,rfl,by simp[h1],fun i k' x' hk hx' => ?_⟩;cases i with
  | zero=>cases hk;cases hx';exact hx
  | succ i=>exact h2 i k' x' (by simpa using hk) (by simpa using hx')
theorem ME {S M:Nat}:∀ {ps:List Int} {xs:List Sv},mK S M ps xs->qE ps (xs.map Sv.w)=true
 | [],[],_=>rfl
 | [],_::_,h=>by simp[mK]at h
 | _::_,[],h=>by simp[mK]at h
 | k::ps,x::xs,h=>by
  simp only[Qe1,qE,Qa2];exact⟨Tg (h.2 0 k x rfl rfl),ME ⟨by simpa using h.1,fun i k' x' hk hx=>h.2 (i+1) k' x' (by simpa using hk) (by simpa using hx)⟩⟩
theorem OC {w:W}(h:w.bare=true):w=gW w.ps:=by
 obtain⟨s,a,b,c,i,u,p,ps⟩:=w;simp only[W.bare,Qa2,Qo0,sJ,Xj1,Fy]at h;obtain⟨⟨⟨⟨⟨rfl,rfl,rfl⟩,rfl⟩,rfl⟩,rfl⟩,rfl⟩:=h;rfl
theorem Bp {S M:Nat}{ps:List Int}(hv:aR 6 ps=true){xs:List Sv}(h:mK S M ps xs):bU 6 ps (gW (xs.map Sv.w))=true:=by
 unfold bU;have h1:(gW (xs.map Sv.w)).ps=xs.map Sv.w:=rfl;have h2:(gW (xs.map Sv.w)).bare=true:=rfl;rw[hv,h1,h2,ME h];simp[h.1]
theorem MF {S M:Nat}(hS:S<=1000){ps:List Int}(hps:ps.length<=3){xs:List Sv}(h:mK S M ps xs):(gW (xs.map Sv.w)).OK:=by
 have hl:bP []:=fun _ h=>(by cases h)
 refine .mk hl hl aC aC ⟨fun _ h=>(by cases h),aC⟩ (by have:=h.1;simp;omega) (fun w hw => ?_);obtain⟨x,hx,rfl⟩:=Qj2.1 hw;obtain⟨i,hi,hxi⟩:=X2.1 hx;have h1:xs[i]?=some x:=by rw[Qa1 hi,hxi]
 have h2:i<ps.length:=by rw[<-h.1];exact hi
 exact Ti (h.2 i _ x (Qa1 h2) h1) hS
noncomputable def kG (ps:List Int) (xs ys:List Sv):List Sv:=(ps.zip (xs.zip ys)).map fun p=>ek p.1 p.2.1 p.2.2
theorem Bq {ps:List Int}{xs ys:List Sv}{i:Nat}{z:Sv}(h:(kG ps xs ys)[i]?=some z):∃ k x y,ps[i]?=some k/\xs[i]?=some x/\ys[i]?=some y/\z=ek k x y:=by
 unfold kG at h;rw[Qc1,Qg0]at h;obtain⟨⟨k,x,y⟩,h1,rfl⟩:=h;rw[Q71]at h1;have h2:=h1.2;rw[Q71]at h2;exact⟨k,x,y,h1.1,h2.1,h2.2,rfl⟩
theorem KM {xs:List Sv}{i:Nat}{w:W}(h:(xs.map Sv.w)[i]?=some w):∃ x,xs[i]?=some x/\w=x.w:=by
 rw[Qc1,Qg0]at h;obtain⟨x,h1,rfl⟩:=h;exact⟨x,h1,rfl⟩
theorem KN {S M:Nat}(hS:S<=1000)(hM:(M+M)*(S+1)<=50000){ps:List Int}(hv:aR 6 ps=true)(v w:W){xs ys:List Sv}(hx:mK S M ps xs)(hy:mK S M ps ys)
  (h1:Ca E1 41 [.d (bD 6 ps),.d v.d] (.d (gW (xs.map Sv.w)).d,none)) (h2:Ca E1 41 [.d (bD 6 ps),.d w.d] (.d (gW (ys.map Sv.w)).d,none)) :
  Ca E1 14 [.d (bD 6 ps),.d v.d,.d w.d] (.d (gW ((kG ps xs ys).map Sv.w)).d,none):=by
 obtain⟨_,_,hs⟩:=rg6 hv;refine Tc hv v w _ _ _ (by simp[hx.1]) (by simp[hy.1]) (by simp[kG,hx.1,hy.1]) h1 h2 (fun i k x y z hk hxi hyi hzi => ?_);obtain⟨x',g1,rfl⟩:=KM hxi;obtain⟨y',g2,rfl⟩:=KM hyi;obtain⟨z',g3,rfl⟩:=KM hzi;obtain⟨k',x'',y'',f1,f2,f3,rfl⟩:=Bq g3;rw[hk]at f1;rw[g1]at f2;rw[g2]at f3;cases f1;cases f2;cases f3;exact Ii (hs k (Qb2 hk)) hS hM (hx.2 i k _ hk g1) (hy.2 i k _ hk g2)
end Fi.S
