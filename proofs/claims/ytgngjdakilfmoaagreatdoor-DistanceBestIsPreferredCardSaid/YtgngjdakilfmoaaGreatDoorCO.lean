import Derived.Test.YtgngjdakilfmoaaGreatDoorPZeroB
import Derived.Test.YtgngjdakilfmoaaGreatDoorPZeroC
import Derived.Test.YtgngjdakilfmoaaGreatDoorPZeroD
import Derived.Test.YtgngjdakilfmoaaGreatDoorCM
set_option linter.unusedVariables false
set_option linter.unusedSimpArgs false
noncomputable section
namespace Fi.S
open Go Fi
set_option maxHeartbeats 8000000
set_option maxRecDepth 10000
theorem ajZ:qD 1=ad8:=by
 have h1:qs 1=false:=bS;have h2:qn 1=[1]:=by
  show enc 1=[1]
  exact jI ae ae
 have h3:qd 1=[]:=if_pos rfl;simp[qD,raw,h1,h2,h3,LD,LL,ad8]
theorem Ru:pM [((0,0,0),0+1)]=Kr:=by
 have h1:qs 1=false:=bS;have h2:qn 1=[1]:=by
  show enc 1=[1]
  exact jI ae ae
 have h3:qd 1=[]:=if_pos rfl;have h0:(0:Rat)+1=1:=Rat.zero_add 1;rw[h0];simp[pM,fo,qC,yZ,h1,h2,h3,LD,LL,Kr]
theorem Rv:∃ K,E6.Has E1 K 153 aaK:=by
 have hz:qz 1<=50000:=by
  have h:qz 1=max (sz 1) (sz 1):=rfl;rw[h,Ce];decide
 obtain⟨K,hK⟩:=J4 1 hz;refine⟨K,rfl,rfl,rfl,rfl,fun g hg => ?_,fun g q hq=>(by cases hq),fun ds v hv n hn => ?_⟩
 ·show(bif Nat.beq g 153 then some aaK else ve g)=ve g;have:Nat.beq g 153=false:=by
   cases hb:Nat.beq g 153 with
   | false=>rfl
   | true=>exact absurd (Ql0 hb) hg
  rw[this];rfl
 ·unfold aaK at hv;split at hv
  ·split at hv
   ·rename_i d hs;cases hv;rw[pO hs,<-ajZ,<-Ru];exact hK n hn
   ·cases hv
  ·cases hv
theorem Wd (k:Int)(ps:List Int)(h:aM k ps=true):jA k ps=true:=by
 have five:∀ {a:Int},single a=true->a ∈ [1,2,3,4,5]:=by
  intro a ha;simp only[single,Qd0,decide_eq_true_eq]at ha;simp only[Qi1,Xr0,or_false];omega
 have main:∀ {f:Int->Bool} {x:Int},([1,2,3,4,5].all f)=true->x ∈ [1,2,3,4,5]->f x=true:=by
  intro f x h1 h2;exact Qh2.1 h1 _ h2
 unfold aM at h
 by_cases hk:k=6
 ·subst hk;rw[if_neg aC]at h;simp only[Qd0,decide_eq_true_eq,Qh2]at h;obtain⟨⟨h2,h3⟩,hs⟩:=h
  match ps,h2,h3,hs with
  | [a,b],_,_,hs =>
   have ha:=five (hs a aC);have hb:=five (hs b aC);simp only[Qi1,Xr0,or_false]at ha;rcases ha with rfl|rfl|rfl|rfl|rfl
   ·exact main (f:=fun k=>jA 6 [1,k]) (x:=b) ahl hb
   ·exact main (f:=fun k=>jA 6 [2,k]) (x:=b) ahm hb
   ·exact main (f:=fun k=>jA 6 [3,k]) (x:=b) ahn hb
   ·exact main (f:=fun k=>jA 6 [4,k]) (x:=b) aho hb
   ·exact main (f:=fun k=>jA 6 [5,k]) (x:=b) ahp hb
  | [a,b,c],_,_,hs =>
   have ha:=five (hs a aC);have hb:=five (hs b aC);have hc:=five (hs c aC);simp only[Qi1,Xr0,or_false]at ha hb;rcases ha with rfl|rfl|rfl|rfl|rfl<;>rcases hb with rfl|rfl|rfl|rfl|rfl
   ·exact main (f:=fun k=>jA 6 [1,1,k]) (x:=c) ad9 hc
   ·exact main (f:=fun k=>jA 6 [1,2,k]) (x:=c) ad_ hc
   ·exact main (f:=fun k=>jA 6 [1,3,k]) (x:=c) ad' hc
   ·exact main (f:=fun k=>jA 6 [1,4,k]) (x:=c) aea hc
   ·exact main (f:=fun k=>jA 6 [1,5,k]) (x:=c) aeb hc
   ·exact main (f:=fun k=>jA 6 [2,1,k]) (x:=c) aec hc
   ·exact main (f:=fun k=>jA 6 [2,2,k]) (x:=c) aed hc
   ·exact main (f:=fun k=>jA 6 [2,3,k]) (x:=c) aee hc
   ·exact main (f:=fun k=>jA 6 [2,4,k]) (x:=c) aef hc
   ·exact main (f:=fun k=>jA 6 [2,5,k]) (x:=c) aeg hc
   ·exact main (f:=fun k=>jA 6 [3,1,k]) (x:=c) aeh hc
   ·exact main (f:=fun k=>jA 6 [3,2,k]) (x:=c) aei hc
   ·exact main (f:=fun k=>jA 6 [3,3,k]) (x:=c) aej hc
   ·exact main (f:=fun k=>jA 6 [3,4,k]) (x:=c) aek hc
   ·exact main (f:=fun k=>jA 6 [3,5,k]) (x:=c) ael hc
   ·exact main (f:=fun k=>jA 6 [4,1,k]) (x:=c) aem hc
   ·exact main (f:=fun k=>jA 6 [4,2,k]) (x:=c) aen hc
   ·exact main (f:=fun k=>jA 6 [4,3,k]) (x:=c) aeo hc
   ·exact main (f:=fun k=>jA 6 [4,4,k]) (x:=c) aep hc
   ·exact main (f:=fun k=>jA 6 [4,5,k]) (x:=c) aer hc
   ·exact main (f:=fun k=>jA 6 [5,1,k]) (x:=c) aes hc
   ·exact main (f:=fun k=>jA 6 [5,2,k]) (x:=c) aet hc
   ·exact main (f:=fun k=>jA 6 [5,3,k]) (x:=c) aeu hc
   ·exact main (f:=fun k=>jA 6 [5,4,k]) (x:=c) aev hc
   ·exact main (f:=fun k=>jA 6 [5,5,k]) (x:=c) aew hc
 ·rw[if_pos hk]at h;simp only[Qd0,decide_eq_true_eq]at h;obtain⟨h1,rfl⟩:=h;exact main (f:=fun k=>jA k []) (x:=k) aj0 (five h1)
def Kt (k:Int)(ps:List Int):W:=if k=6 then fG (ps.map fun k=>(dO k).w) else(dO k).w
theorem Pq (k:Int):(dO k).w.d=Nl k:=by
 have h1:qs 0=false:=bS;have h2:qn 0=[]:=dH;have h3:qd 0=[]:=if_pos rfl;unfold dO Nl
 by_cases a:k=2
 ·subst a;rfl
 ·have e:(k==2)=false:=by simpa using a
  rw[if_neg a,e]
  by_cases b:k=4
  ·rw[if_pos b];rfl
  ·rw[if_neg b]
   by_cases c:k=5
   ·rw[if_pos c];rfl
   ·rw[if_neg c];simp only[Sv.w,W.d,W.ds,h1,h2,h3,LD,LL,PD,Qc2]
theorem aaL (k:Int)(ps:List Int):(Kt k ps).d=We k ps:=by
 unfold Kt We
 by_cases h:k=6
 ·rw[if_pos h,if_pos h];have:W.ds (ps.map fun k=>(dO k).w)=ps.map Nl:=by
   rw[W.gG,Q2];exact Xk2 fun x _=>Pq x
  show D.a [vB false,.s 1 [],.s 1 [],vI 0,vB false,.v (.int .u64 0),.s 6 [],.s 8 (W.ds (ps.map fun k=>(dO k).w))]=_;rw[this]
 ·rw[if_neg h,if_neg h,Pq]
theorem Wh {k:Int}{ps:List Int}(h:aM k ps=true):Ca E1 26 [.d (aU k ps)] (.d (Kt k ps).d,none):=by
 have h1:=Wd k ps h;unfold jA at h1;rw[Qd0]at h1;have h2:=h1.1;split at h2
 ·rename_i z hz;rw[aaL,<-pO h2];exact Ca.gM (Ca.of hz)
 ·cases h2
theorem aaM {k:Int}{ps:List Int}(h:aM k ps=true):Ca E1 20 [.d (aU k ps)] (.d (Ps k ps),none):=by
 obtain⟨K,hK⟩:=Rv;have h1:=Wd k ps h;unfold jA at h1;rw[Qd0]at h1;obtain⟨_,h3⟩:=h1;split at h3
 ·rename_i z hz;rw[<-pO h3];exact Ca.of (Rw hK hz)
 ·cases h3
noncomputable def Aj (v:Int):List aS :=
 if (v.tdiv 5) % 2=1 then fK (bM (sw (v % 5-2) 3)) (dM [(iG ((v.tdiv 10) % 3).toNat,1)] (bM (u7 v))) else bM (sw (v % 5-2) 3)
noncomputable def Dv (k v:Int):Sv :=
 if k=1 then .q (u7 v) else if k=2 then(if v % 11=10 then .c true 0 else .c false (v % 11)) else if k=3 then .q (sw (v % 7) 6) else if k=4 then .s (v % 16) else .p (Aj v)
theorem Nn {a b:Int}(ha:a.natAbs<4294967296)(hb:b.natAbs<4294967296)(hb0:b≠0):qz (sw a b)<=1:=by
 unfold sw;refine Qc1 (Ch ae) ?_;have h1:sz a.natAbs<=1:=vg ae;have h2:sz b.natAbs<=1:=vg ae;exact Nat.max_le.2 ⟨h1,h2⟩
theorem BC (v:Int):qz (u7 v)<=1:=by
 have h1:=Qo2 v (show(13:Int)≠0 by omega);have h2:=Qm1 v (show(0:Int)<13 by omega);have h3:=Qo2 (v.tdiv 13) (show(3:Int)≠0 by omega);have h4:=Qm1 (v.tdiv 13) (show(0:Int)<3 by omega);exact Nn ae ae ae
theorem Dw (v:Int):qz (sw (v % 5-2) 3)<=1:=by
 have h1:=Qo2 v (show(5:Int)≠0 by omega);have h2:=Qm1 v (show(0:Int)<5 by omega);exact Nn ae ae ae
theorem Dx (i:Nat):PV 1 [(iG i,1)]:=by
 refine⟨Qo0.2 ⟨fun _ h=>(by cases h),List.Pairwise.nil⟩,fun p hp => ?_,fun p hp => ?_,fun p hp => ?_⟩<;>(rw[Qx0]at hp;subst hp)
 ·exact(by decide:(1:Rat)≠0)
 ·show bI (iG i)=true;unfold iG;split
  ·decide
  ·split<;>decide
 ·show qz 1<=1;have h:qz 1=max (sz 1) (sz 1):=rfl;rw[h,Ce];decide
theorem zf (x:Rat):(bM x).length<=1:=by unfold bM;split<;>simp
theorem Wi (v:Int):PV 9 (Aj v)/\(Aj v).length<=2:=by
 have hc:=jK (Dw v);have hn:=jK (BC v);have hm:=gU (a:=[(iG ((v.tdiv 10) % 3).toNat,1)]) ae (Dx _) hn;have hl:=Ag [(iG ((v.tdiv 10) % 3).toNat,1)] (bM (u7 v));have l1:=zf (u7 v);have l2:=zf (sw (v % 5-2) 3);simp only[Qf2,Qs0]at hm hl;unfold Aj;split
 ·refine⟨(gI (S:=4) (T:=4) ae ae (hc.mono ae) (hm.mono ae)),?_⟩;have:=Af (bM (sw (v % 5-2) 3)) (dM [(iG ((v.tdiv 10) % 3).toNat,1)] (bM (u7 v)));omega
 ·exact⟨hc.mono ae,ae⟩
theorem Pt {k:Int}(hk:single k=true)(v:Int):(Dv k v).of k 9 2:=by
 unfold Dv;rcases aN hk with rfl|rfl|rfl|rfl|rfl
 ·rw[if_pos rfl];exact⟨.inl rfl,Qc1 (BC v) ae⟩
 ·rw[if_neg bS,if_pos rfl];have h1:=Qo2 v (show(11:Int)≠0 by omega);have h2:=Qm1 v (show(0:Int)<11 by omega);split
  ·exact⟨rfl,bS,bS,fun _=>rfl⟩
  ·exact⟨rfl,h1,ae,fun h=>by cases h⟩
 ·rw[if_neg bS,if_neg bS,if_pos rfl];have h1:=Qo2 v (show(7:Int)≠0 by omega);have h2:=Qm1 v (show(0:Int)<7 by omega);have hs:qz (sw (v % 7) 6)<=1:=Nn ae ae ae;refine⟨.inr ⟨rfl,?_⟩,ae⟩;have h3:v % 7=0\/v % 7=1\/v % 7=2\/v % 7=3\/v % 7=4\/v % 7=5\/v % 7=6:=ae;rcases h3 with h|h|h|h|h|h|h<;>rw[h]<;>decide +kernel
 ·rw[if_neg bS,if_neg bS,if_neg bS,if_pos rfl];have h1:=Qo2 v (show(16:Int)≠0 by omega);have h2:=Qm1 v (show(0:Int)<16 by omega);exact⟨rfl,h1,ae⟩
 ·rw[if_neg bS,if_neg bS,if_neg bS,if_neg bS];exact⟨rfl,Wi v⟩
theorem aex:cz E0 80 35 [.d (aU 2 [])] []=some (.d (Nl 2),none):=aaN (by kernel_rfl)
theorem ahr (v:Int)(hv:ib v):Ca E1 16 [.d (aU 2 []),dI v] (.d (if v % 11=10 then Sv.c true 0 else .c false (v % 11)).w.d,none):=by
 obtain⟨N,hN,t,t2⟩:=((Ca.gM (iR v 11 hv ae ae)).j ((Ca.gM (Ca.of aex)).any)).at 0;refine Ca.bQ (n:=N+100) ?_;rw[aA rfl (k16:E1.fn _=_) rfl];generalize v % 11=j at*
 by_cases h:j=10
 ·subst h;rw[if_pos rfl];simp only[Sv.w,W.d,W.ds,PD,aU,LK,LD,LL,Qc2,Nl]at*;simp[f16,t,t2]
 ·have h':(j==10)=false:=by simpa using h
  rw[if_neg h];simp only[Sv.w,W.d,W.ds,PD,aU,LK,LD,LL,Qc2]at*;simp[f16,t,h,h']
theorem aey (v:Int)(hv:ib v):Ca E1 16 [.d (aU 3 []),dI v] (.d (Sv.q (sw (v % 7) 6)).w.d,none):=by
 have h1:=Qo2 v (show(7:Int)≠0 by omega);have h2:=Qm1 v (show(0:Int)<7 by omega);obtain⟨N,hN,t1,t2⟩:=((Ca.gM (iR v 7 hv ae ae)).j ((Ca.gM (Cs (v % 7) 6 ae bS bS)).any)).at 0;refine Ca.bQ (n:=N+100) ?_;rw[aA rfl (k16:E1.fn _=_) rfl];generalize sw (v % 7) 6=x at*;generalize v % 7=j at*;simp only[Sv.w,W.d,W.ds,PD,aU,LK,qD,raw,LD,Qc2]at*;generalize qs x=s,LL (qn x)=ns,LL (qd x)=ds at*;simp[f16,t1,t2]
set_option maxRecDepth 4000
def ik (S M:Nat)(ps:List Int)(xs:List Sv):Prop:=xs.length=ps.length/\∀ (i:Nat) (k:Int) (x:Sv),ps[i]?=some k->xs[i]?=some x->x.of k S M
theorem Pw {S M:Nat}:∀ {ps:List Int} {xs:List Sv},ik S M ps xs->uZ ps (xs.map Sv.w)=true
 | [],[],_=>rfl
 | [],_::_,h=>by simp[ik]at h
 | _::_,[],h=>by simp[ik]at h
 | k::ps,x::xs,h=>by
  simp only[Qe2,uZ,Qd0];exact⟨V9 (h.2 0 k x rfl rfl),Pw ⟨by simpa using h.1,fun i k' x' hk hx=>h.2 (i+1) k' x' (by simpa using hk) (by simpa using hx)⟩⟩
theorem Dy {S M:Nat}{ps:List Int}(hv:aM 6 ps=true){xs:List Sv}(h:ik S M ps xs):fH 6 ps (fG (xs.map Sv.w))=true:=by
 unfold fH;have h1:(fG (xs.map Sv.w)).ps=xs.map Sv.w:=rfl;have h2:(fG (xs.map Sv.w)).bare=true:=rfl;rw[hv,h1,h2,Pw h];simp[h.1]
theorem Px {S M:Nat}(hS:S<=1000){ps:List Int}(hps:ps.length<=3){xs:List Sv}(h:ik S M ps xs):(fG (xs.map Sv.w)).OK:=by
 have hl:bY []:=fun _ h=>(by cases h)
 refine .mk hl hl aC aC ⟨fun _ h=>(by cases h),aC⟩ (by have:=h.1;simp;omega) (fun w hw => ?_);obtain⟨x,hx,rfl⟩:=Qg1.1 hw;obtain⟨i,hi,hxi⟩:=X40.1 hx;have h1:xs[i]?=some x:=by rw[Qa1 hi,hxi]
 have h2:i<ps.length:=by rw[<-h.1];exact hi
 exact V_ (h.2 i _ x (Qa1 h2) h1) hS
noncomputable def bT (ps:List Int) (xs ys:List Sv):List Sv:=(ps.zip (xs.zip ys)).map fun p=>dn p.1 p.2.1 p.2.2
theorem iq {ps:List Int}{xs ys:List Sv}{i:Nat}{z:Sv}(h:(bT ps xs ys)[i]?=some z):∃ k x y,ps[i]?=some k/\xs[i]?=some x/\ys[i]?=some y/\z=dn k x y:=by
 unfold bT at h;rw[Qb1,Qf1]at h;obtain⟨⟨k,x,y⟩,h1,rfl⟩:=h;rw[Xf1]at h1;have h2:=h1.2;rw[Xf1]at h2;exact⟨k,x,y,h1.1,h2.1,h2.2,rfl⟩
end Fi.S
