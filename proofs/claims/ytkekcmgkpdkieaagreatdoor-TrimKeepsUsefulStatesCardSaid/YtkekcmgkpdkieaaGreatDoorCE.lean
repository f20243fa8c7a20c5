import Derived.Test.YtkekcmgkpdkieaaGreatDoorCD
set_option linter.unusedVariables false
set_option linter.unusedSimpArgs false
noncomputable section
namespace Fi.S
open Go Fi
set_option maxHeartbeats 8000000
set_option maxRecDepth 4000
def single (k:Int):Bool:=decide (1<=k)&&decide (k<=5)
def aR (k:Int)(ps:List Int):Bool:=if k≠6 then single k&&decide (ps=[]) else decide (2<=ps.length)&&decide (ps.length<=3)&&ps.all single
theorem Ay (n:Nat)(k:Int):CL E0 (n+30) 67 [dI k] []=some (dB (single k),none):=by
 rw[aB rfl (aN 67 f67:E0.fn _=_) rfl];unfold single
 by_cases h:1<=k
 ·by_cases h2:k<=5
  ·simp[f67,h,h2]
  ·simp[f67,h,h2]
 ·simp[f67,h]
theorem iL (n:Nat)(k:Int):CL E0 (n+60) 69 [dI k] []=some (dB (!single k),none):=by
 have h:=fun m=>Ay m k
 rw[aB rfl (aN 69 f69:E0.fn _=_) rfl];generalize single k=b at*;simp[f69,h]
theorem Dc (n:Nat)(x y:Int):CL E0 (n+300) 68 [.d (.s 1 (LK .i64 [x,y])),.d (.fn 69)] []=some (dB (!(single x&&single y)),none):=by
 have h1:=fun m=>iL m x
 have h2:=fun m=>iL m y
 have w1:av .i64 1=1:=wrap_i64 ae;have w2:av .i64 2=2:=wrap_i64 ae;have hi:∃ v:Int,(decide (0<=v) = !(single x&&single y))/\∀ m,CL E0 (m+200) 100 [.d (.s 1 (LK .i64 [x,y])),.d (.fn 69)] []=some (dI v,none):=by
  cases hx:single x
  ·refine⟨0,rfl,fun m => ?_⟩;rw[hx]at h1;rw[aB rfl (k100:E0.fn _=_) rfl];simp only[LK,Qe1,Qc2];simp[f100,aH,h1]
  ·cases hy:single y
   ·refine⟨1,rfl,fun m => ?_⟩;rw[hx]at h1;rw[hy]at h2;rw[aB rfl (k100:E0.fn _=_) rfl];simp only[LK,Qe1,Qc2];simp[f100,aH,w1,h1,h2]
   ·refine⟨-1,rfl,fun m => ?_⟩;rw[hx]at h1;rw[hy]at h2;rw[aB rfl (k100:E0.fn _=_) rfl];simp only[LK,Qe1,Qc2];simp[f100,aH,w1,w2,h1,h2]
 obtain⟨v,hv,hi⟩:=hi;rw[aB rfl (k68:E0.fn _=_) rfl];rw[<-hv];generalize LK .i64 [x,y]=l at*;simp[f68,hi]
theorem De (n:Nat)(x y z:Int):CL E0 (n+300) 68 [.d (.s 1 (LK .i64 [x,y,z])),.d (.fn 69)] []=some (dB (!(single x&&(single y&&single z))),none):=by
 have h1:=fun m=>iL m x
 have h2:=fun m=>iL m y
 have h3:=fun m=>iL m z
 have w1:av .i64 1=1:=wrap_i64 ae;have w2:av .i64 2=2:=wrap_i64 ae;have w3:av .i64 3=3:=wrap_i64 ae;have hi:∃ v:Int,(decide (0<=v) = !(single x&&(single y&&single z)))/\∀ m,CL E0 (m+200) 100 [.d (.s 1 (LK .i64 [x,y,z])),.d (.fn 69)] []=some (dI v,none):=by
  cases hx:single x
  ·refine⟨0,rfl,fun m => ?_⟩;rw[hx]at h1;rw[aB rfl (k100:E0.fn _=_) rfl];simp only[LK,Qe1,Qc2];simp[f100,aH,h1]
  ·cases hy:single y
   ·refine⟨1,rfl,fun m => ?_⟩;rw[hx]at h1;rw[hy]at h2;rw[aB rfl (k100:E0.fn _=_) rfl];simp only[LK,Qe1,Qc2];simp[f100,aH,w1,h1,h2]
   ·cases hz:single z
    ·refine⟨2,rfl,fun m => ?_⟩;rw[hx]at h1;rw[hy]at h2;rw[hz]at h3;rw[aB rfl (k100:E0.fn _=_) rfl];simp only[LK,Qe1,Qc2];simp[f100,aH,w1,w2,h1,h2,h3]
    ·refine⟨-1,rfl,fun m => ?_⟩;rw[hx]at h1;rw[hy]at h2;rw[hz]at h3;rw[aB rfl (k100:E0.fn _=_) rfl];simp only[LK,Qe1,Qc2];simp[f100,aH,w1,w2,w3,h1,h2,h3]
 obtain⟨v,hv,hi⟩:=hi;rw[aB rfl (k68:E0.fn _=_) rfl];rw[<-hv];generalize LK .i64 [x,y,z]=l at*;simp[f68,hi]
theorem oK (n:Nat)(k:Int)(ps:List Int):CL E0 (n+500) 31 [.d (bD k ps)] []=some (dB (aR k ps),none):=by
 have hs:=fun m=>Ay m k
 rw[aB rfl (aN 31 f31:E0.fn _=_) rfl];unfold aR bD
 by_cases hk:k=6
 ·subst hk;rw[if_neg aC]
  match ps with
  | []=>simp[f31,LK]
  | [x]=>simp[f31,LK]
  | [x,y] =>
   have h:=fun m=>Dc m x y
   simp only[LK,Qe1,Qc2]at h;simp[f31,LK,h]
  | [x,y,z] =>
   have h:=fun m=>De m x y z
   simp only[LK,Qe1,Qc2]at h;simp[f31,LK,h]
  | x::y::z::w::r =>
   have h2:(2:Int)<=(r.length:Int)+1+1+1+1:=ae;have h3:¬ (r.length:Int)+1+1+1+1<=3:=ae;simp[f31,LK,h2,h3]
 ·rw[if_pos hk];have hne:(k != 6)=true:=by simpa using hk
  cases hb:single k
  ·rw[hb]at hs;simp[f31,hne,hs]
  ·rw[hb]at hs;cases ps with
   | nil=>simp[f31,LK,hne,hs]
   | cons x r =>
    have h0:(((r.length:Int)+1)==0)=false:=by simp;omega
    simp[f31,LK,hne,hs,h0]
theorem jm (x:Int):(single x=true/\¬ x<1/\¬ 5<x)\/(single x=false/\x<1)\/(single x=false/\¬ x<1/\5<x):=by
 unfold single
 by_cases h1:x<1
 ·have:¬ 1<=x:=ae;simp[this,h1]
 ·by_cases h2:5<x
  ·have:¬ x<=5:=ae;simp[this,h1,h2]
  ·have a1:1<=x:=ae;have a2:x<=5:=ae;simp[a1,a2]
theorem iY (n:Nat)(k:Int)(ps:List Int):CL E0 (n+500) 28 [.d (bD k ps)] []=some (dB (aR k ps),none):=by
 rw[aB rfl (aN 28 f28:E0.fn _=_) rfl];have w1:av .i64 1=1:=wrap_i64 ae;have w2:av .i64 2=2:=wrap_i64 ae;have w3:av .i64 3=3:=wrap_i64 ae;unfold aR bD
 by_cases hk:k=6
 ·subst hk;rw[if_neg aC]
  match ps with
  | []=>simp[f28,LK]
  | [x]=>simp[f28,LK]
  | [x,y] =>
   rcases jm x with ⟨a,a1,a2⟩|⟨a,a1⟩|⟨a,a1,a2⟩
   ·rcases jm y with ⟨b,b1,b2⟩|⟨b,b1⟩|⟨b,b1,b2⟩
    ·simp[f28,aH,LK,w1,w2,a,a1,a2,b,b1,b2]
    ·simp[f28,aH,LK,w1,a,a1,a2,b,b1]
    ·simp[f28,aH,LK,w1,a,a1,a2,b,b1,b2]
   ·simp[f28,aH,LK,a,a1]
   ·simp[f28,aH,LK,a,a1,a2]
  | [x,y,z] =>
   rcases jm x with ⟨a,a1,a2⟩|⟨a,a1⟩|⟨a,a1,a2⟩
   ·rcases jm y with ⟨b,b1,b2⟩|⟨b,b1⟩|⟨b,b1,b2⟩
    ·rcases jm z with ⟨c,c1,c2⟩|⟨c,c1⟩|⟨c,c1,c2⟩
     ·simp[f28,aH,LK,w1,w2,w3,a,a1,a2,b,b1,b2,c,c1,c2]
     ·simp[f28,aH,LK,w1,w2,a,a1,a2,b,b1,b2,c,c1]
     ·simp[f28,aH,LK,w1,w2,a,a1,a2,b,b1,b2,c,c1,c2]
    ·simp[f28,aH,LK,w1,a,a1,a2,b,b1]
    ·simp[f28,aH,LK,w1,a,a1,a2,b,b1,b2]
   ·simp[f28,aH,LK,a,a1]
   ·simp[f28,aH,LK,a,a1,a2]
  | x::y::z::w::r =>
   have h2:¬ (r.length:Int)+1+1+1+1<2:=ae;have h3:(3:Int)<(r.length:Int)+1+1+1+1:=ae;simp[f28,LK,h2,h3]
 ·rw[if_pos hk];have hne:(k != 6)=true:=by simpa using hk
  unfold single
  by_cases b1:1<=k
  ·by_cases b2:k<=5
   ·cases ps with
    | nil=>simp[f28,LK,hne,b1,b2]
    | cons x r =>
     have h0:(((r.length:Int)+1)==0)=false:=by simp;omega
     simp[f28,LK,hne,b1,b2,h0]
   ·generalize LK .i64 ps=l at*;simp[f28,hne,b1,b2]
  ·generalize LK .i64 ps=l at*;simp[f28,hne,b1]
def fe (k:Int)(ps:List Int)(k':Int)(ps':List Int):Bool:=k==k'&&decide (ps=ps')
theorem RH (k k':Int)(ps ps':List Int)(h1:ps.length<=1000000000)(h2:ps'.length<=1000000000):Ca E0 32 [.d (bD k ps),.d (bD k' ps')] (dB (fe k ps k' ps'),none):=by
 obtain⟨N,t⟩:=(He .i64 ps ps' h1 h2).get;refine Ca.bO (n:=N+60) ?_;rw[aB rfl (aN 32 f32:E0.fn _=_) rfl];unfold fe bD;generalize decide (ps=ps')=r at*;cases h:(k==k')
 ·simp[f32,h]
 ·simp[f32,h,t]
def wrB:aF:=f33.body.r.r.l.r.bl.lp
def VR (k k':Int)(ps ps':List Int)(i:Nat)(t:FV):St:=(st0 [.u,.u,rL 0,rL 1,.u,dI i,.u,t,.u] [.box [dI k,.d (.s 1 (LK .i64 ps))],.box [dI k',.d (.s 1 (LK .i64 ps'))]])
def wrF (k k':Int)(ps ps':List Int):St:=(st0 (.u::.u::.u::.u::dB false::mO) [.box [dI k,.d (.s 1 (LK .i64 ps))],.box [dI k',.d (.s 1 (LK .i64 ps'))]])
theorem RI (k k':Int)(ps ps':List Int)(i:Nat)(x y:Int)(la:ps.length<=1000000000)(hx:ps[i]?=some x)(hy:ps'[i]?=some y) :
  EX E0 90 wrB (VR k k' ps ps' i .u)=if x=y then some (.norm,VR k k' ps ps' (i+1) .u) else some (.ret,wrF k k' ps ps'):=by
 have hi:=(aS hx)
 have hi2:=(aS hy)
 have n1:(LK .i64 ps).length=ps.length:=by simp[LK]
 have n2:(LK .i64 ps').length=ps'.length:=by simp[LK]
 have hx':(LK .i64 ps)[i]?=some (vI x):=by simp[LK,hx]
 have hy':(LK .i64 ps')[i]?=some (vI y):=by simp[LK,hy]
 have aP:av .i64 ((i:Int)+1)=(i:Int)+1:=wrap_i64 ae;have hk1:((i+1:Nat):Int)=(i:Int)+1:=ae;have hk0:(0:Int)<=(i:Int):=ae;unfold VR wrF;rw[hk1];have i1:=idx hx';have i2:=idx hy'
 by_cases h:x=y
 ·subst h;simp[wrB,f33,n1,n2,hi,hi2,hk0,hx',hy',i1,i2,aP]
 ·have hne:(x != y)=true:=by simpa using h
  rw[if_neg h];simp[wrB,f33,n1,n2,hi,hi2,hk0,hx',hy',i1,i2,hne]
theorem Xj (k k':Int)(a b:List Int)(la:a.length<=1000000000)(hl:a.length=b.length) :
  ∃ r,Ex E0 (.loop wrB) (VR k k' a b 0 .u) r/\((a=b/\r=(.exit 0,VR k k' a b a.length (dB false)))\/(a≠b/\r=(.ret,wrF k k' a b))):=by
 refine Ex.inv (S:=fun i:Nat=>VR k k' a b i .u) (fun i=>a.length-i) (fun i=>i<=a.length/\a.take i=b.take i) _ ?_ 0 ⟨ae,aC⟩;rintro i ⟨h1,h2⟩
 by_cases hk:i<a.length
 ·have hx:a[i]?=some (a[i]'hk):=Qa1 hk;have hy:b[i]?=some (b[i]'(by omega)):=Qa1 ae;have hr:=RI k k' a b i _ _ la hx hy
  by_cases h:a[i]'hk=b[i]'(by omega)
  ·rw[if_pos h]at hr;refine .inl ⟨i+1,Ex.of hr,ae,ae,?_⟩;rw[Qi1 hk,Qi1 ae,h2,h]
  ·rw[if_neg h]at hr;refine .inr ⟨_,Ex.of hr,aC,.inr ⟨?_,rfl⟩⟩;intro he;subst he;exact h rfl
 ·have he:i=a.length:=ae;subst he;have n1:(LK .i64 a).length=a.length:=by simp[LK]
  rw[Qj0,hl,Qj0]at h2;refine .inr ⟨_,Ex.of (n:=60) ?_,?_,.inl ⟨h2,rfl⟩⟩
  ·unfold VR;generalize a.length=m at*;simp[wrB,f33,n1]
  ·simp
theorem NZ (k k':Int)(ps ps':List Int)(h1:ps.length<=1000000000)(h2:ps'.length<=1000000000):Ca E0 33 [.d (bD k ps),.d (bD k' ps')] (dB (fe k ps k' ps'),none):=by
 have n1:(LK .i64 ps).length=ps.length:=by simp[LK]
 have n2:(LK .i64 ps').length=ps'.length:=by simp[LK]
 by_cases hk:k=k'
 ·subst hk;have e0:(k != k)=false:=aC
  by_cases hl:ps.length=ps'.length
  ·obtain⟨r,hr,h⟩:=Xj k k ps ps' h1 hl;have Kk:(LK .i64 ps').length=ps.length:=ae;have hA:Ex E0 f33.body.l (st0 (.d (bD k ps)::.d (bD k ps')::nO) []) (.norm,(st0 (.u::.u::rL 0::rL 1::iO) [.box [dI k,.d (.s 1 (LK .i64 ps))],.box [dI k,.d (.s 1 (LK .i64 ps'))]])):=by
    refine Ex.of (n:=40) ?_;unfold bD;generalize LK .i64 ps=l1 at*;generalize LK .i64 ps'=l2 at*;simp[f33]
   have hB:Ex E0 f33.body.r.l (st0 (.u::.u::rL 0::rL 1::iO) [.box [dI k,.d (.s 1 (LK .i64 ps))],.box [dI k,.d (.s 1 (LK .i64 ps'))]]) (.norm,(st0 [.u,.u,rL 0,rL 1,.u,.u,dB false,.u,.u] [.box [dI k,.d (.s 1 (LK .i64 ps))],.box [dI k,.d (.s 1 (LK .i64 ps'))]])):=by
    apply e6;generalize LK .i64 ps=l1 at*;generalize LK .i64 ps'=l2,ps.length=m at*;simp[f33,n1,Kk,e0]
   have hC:Ex E0 f33.body.r.r.l.l (st0 [.u,.u,rL 0,rL 1,.u,.u,dB false,.u,.u] [.box [dI k,.d (.s 1 (LK .i64 ps))],.box [dI k,.d (.s 1 (LK .i64 ps'))]]) (.norm,VR k k ps ps' 0 .u):=by
    refine Ex.of (n:=40) ?_;unfold VR;generalize LK .i64 ps=l1 at*;generalize LK .i64 ps'=l2 at*;simp[f33]
   rcases h with ⟨he,rfl⟩|⟨he,rfl⟩
   ·have hv:fe k ps k ps'=true:=by simp[fe,he]
    rw[hv];refine Ca.body (o:=.ret) (st1:=(st0 (.u::.u::.u::.u::dB true::mO) [.box [dI k,.d (.s 1 (LK .i64 ps))],.box [dI k,.d (.s 1 (LK .i64 ps'))]])) rfl (k33:E0.fn _=_) rfl ?_ (by intro id h;cases h) ?_
    ·show Ex E0 (.seq f33.body.l (.seq f33.body.r.l (.seq (.seq f33.body.r.r.l.l (.block 0 (.loop wrB))) f33.body.r.r.r))) _ _;refine hA.seq (hB.seq ((hC.seq hr.block).seq (Ex.of (n:=40) ?_)));unfold VR;generalize LK .i64 ps=l1 at*;generalize LK .i64 ps'=l2 at*;simp[f33]
    ·simp[f33]
   ·have hv:fe k ps k ps'=false:=by simp[fe,he]
    rw[hv];refine Ca.body (o:=.ret) (st1:=wrF k k ps ps') rfl (k33:E0.fn _=_) rfl ?_ (by intro id h;cases h) ?_
    ·show Ex E0 (.seq f33.body.l (.seq f33.body.r.l (.seq (.seq f33.body.r.r.l.l (.block 0 (.loop wrB))) f33.body.r.r.r))) _ _;exact hA.seq (hB.seq (hC.seq hr.bG).bN)
    ·simp[f33,wrF]
  ·have hv:fe k ps k ps'=false:=by
    have:¬ ps=ps':=fun h=>hl (by rw[h])
    simp[fe,this]
   have hne:((ps.length:Int) != (ps'.length:Int))=true:=bne_iff_ne.2 ae;rw[hv];refine Ca.bO (n:=90) ?_;rw[aB rfl (k33:E0.fn _=_) rfl];unfold bD;generalize LK .i64 ps=l1 at*;generalize LK .i64 ps'=l2 at*;simp[f33,n1,n2,hne]
 ·have hv:fe k ps k' ps'=false:=by simp[fe,hk]
  have hne:(k != k')=true:=by simpa using hk
  rw[hv];refine Ca.bO (n:=90) ?_;rw[aB rfl (k33:E0.fn _=_) rfl];unfold bD;simp[f33,hne]
def q0 (s:Bool)(a b:List Nat):Bool := !s&&decide (a=[])&&decide (b=[])
def dV (k:Int):W->Bool
 | .mk s a b c i u p ps =>
  if k=1 then dC s a b&&((c==0) && !i&&(u==0)&&p.isEmpty&&ps.isEmpty)
  else if k=2 then(decide (0<=c)&&decide (c<=1099511627776)&&(!i||(c==0)))&&(q0 s a b&&(u==0)&&p.isEmpty&&ps.isEmpty)
  else if k=3 then(dC s a b&&((c==0) && !i&&(u==0)&&p.isEmpty&&ps.isEmpty))&&decide (0<=(bL s a b).num.sign) && !decide ((1:Rat)<bL s a b)
  else if k=4 then q0 s a b&&(c==0) && !i&&p.isEmpty&&ps.isEmpty
  else uX none p&&(q0 s a b&&(c==0) && !i&&(u==0)&&ps.isEmpty)
theorem zD {α:Type}(eq:α->α->Bool)(l:List α):iD eq l []=l.isEmpty:=by cases l<;>rfl
theorem zF (l:List W):W.eqs l []=l.isEmpty:=by cases l<;>rfl
theorem Az {α:Type}{eq:α->α->Bool}(h:∀ x,eq x x=true):∀ l:List α,iD eq l l=true
 | []=>rfl
 | x::r=>by simp[iD,h x,Az h r]
theorem DX (m:Mo):m.eq m=true:=by simp[Mo.eq]
theorem vE (s:Bool)(a b:List Nat):(s==false&&decide (a=[])&&decide (b=[]))=q0 s a b:=by cases s<;>rfl
theorem zG (s:Bool)(a b:List Nat)(c:Int)(i:Bool)(u:Int)(p:List Mo)(ha:bP a)(hb:bP b)(la:a.length<=1000)(lb:b.length<=1000)(hp:Po p):(W.mk s a b c i u p []).OK :=
 .mk ha hb la lb hp aC (fun w hw=>by cases hw)
theorem kr:bP []:=fun x hx=>by cases hx
theorem AA:Po []:=⟨(fun m hm=>by cases hm),aC⟩
theorem Mg (w:W)(hw:w.OK):Ca E0 108 [.d w.d] (dB (dV 1 w),none):=by
 cases hw with
 | @mk s a b c i u p ps ha hb la lb hp lp h =>
  obtain⟨Kq,_,t1,t2⟩:=((xm s a b ae ae ha hb).j ((jl _ (.mk (c:=c) (i:=i) (u:=u) (s:=s) ha hb la lb hp lp h) _ (zG s a b 0 false 0 [] ha hb la lb AA)).any)).at 0;generalize Kq=N at*;have e:W.eq (.mk s a b c i u p ps) (.mk s a b 0 false 0 [] [])=((c==0) && !i&&(u==0)&&p.isEmpty&&ps.isEmpty):=by
   simp only[W.eq,zD,zF];cases i<;>simp
  rw[e]at t2;refine Ca.bO (n:=N+90) ?_;rw[aB rfl (aN 108 f108:E0.fn _=_) rfl];rw[dV];rw[if_pos rfl];generalize ((c==0) && !i&&(u==0)&&p.isEmpty&&ps.isEmpty)=r2,dC s a b=r1 at*;simp only[W.d,W.ds,PD,raw,LD]at*;generalize LL a=x1,LL b=x2,W.ds ps=x4 at*;simp only[Qc2]at*;generalize List.map Mo.d p=x3 at*;cases r1
  ·simp[f108,t1]
  ·simp[f108,t1,t2]
theorem Xk (w:W)(hw:w.OK):Ca E0 122 [.d w.d] (dB (dV 2 w),none):=by
 cases hw with
 | @mk s a b c i u p ps ha hb la lb hp lp h =>
  obtain⟨N,t2⟩:=(jl _ (.mk (c:=c) (i:=i) (u:=u) (s:=s) ha hb la lb hp lp h) _ (zG false [] [] c i 0 [] kr kr aC aC AA)).get;have e:W.eq (.mk s a b c i u p ps) (.mk false [] [] c i 0 [] [])=(q0 s a b&&(u==0)&&p.isEmpty&&ps.isEmpty):=by
   simp only[W.eq,zD,zF,vE];simp
  rw[e]at t2;refine Ca.bO (n:=N+90) ?_;rw[aB rfl (aN 122 f122:E0.fn _=_) rfl];rw[dV];rw[if_neg ae,if_pos rfl];generalize (q0 s a b&&(u==0)&&p.isEmpty&&ps.isEmpty)=r2 at*;simp only[W.d,W.ds,PD,LD]at*;generalize LL a=x1,LL b=x2,W.ds ps=x4 at*;simp only[Qc2,LL]at*;generalize List.map Mo.d p=x3 at*
  by_cases h1:0<=c
  ·by_cases h2:c<=1099511627776
   ·cases i
    ·simp[f122,t2,h1,h2]
    ·cases h3:(c==0)
     ·simp[f122,t2,h1,h2,h3]
     ·simp[f122,t2,h1,h2,h3]
   ·simp[f122,h1,h2]
  ·simp[f122,h1]
theorem Xl (w:W)(hw:w.OK):Ca E0 139 [.d w.d] (dB (dV 4 w),none):=by
 cases hw with
 | @mk s a b c i u p ps ha hb la lb hp lp h =>
  obtain⟨N,t2⟩:=(jl _ (.mk (c:=c) (i:=i) (u:=u) (s:=s) ha hb la lb hp lp h) _ (zG false [] [] 0 false u [] kr kr aC aC AA)).get;have e:W.eq (.mk s a b c i u p ps) (.mk false [] [] 0 false u [] [])=(q0 s a b&&(c==0) && !i&&p.isEmpty&&ps.isEmpty):=by
   simp only[W.eq,zD,zF,vE];cases i<;>simp
  rw[e]at t2;refine Ca.bO (n:=N+90) ?_;rw[aB rfl (aN 139 f139:E0.fn _=_) rfl];rw[dV];rw[if_neg ae,if_neg ae,if_neg ae,if_pos rfl];generalize (q0 s a b&&(c==0) && !i&&p.isEmpty&&ps.isEmpty)=r2 at*;simp only[W.d,W.ds,PD,LD]at*;generalize LL a=x1,LL b=x2,W.ds ps=x4 at*;simp only[Qc2,LL]at*;generalize List.map Mo.d p=x3 at*;simp[f139,t2]
theorem Xm (w:W)(hw:w.OK):Ca E0 149 [.d w.d] (dB (dV 5 w),none):=by
 cases hw with
 | @mk s a b c i u p ps ha hb la lb hp lp h =>
  obtain⟨Kq,_,t1,t2⟩:=((DU p hp).j ((jl _ (.mk (c:=c) (i:=i) (u:=u) (s:=s) ha hb la lb hp lp h) _ (zG false [] [] 0 false 0 p kr kr aC aC hp)).any)).at 0;generalize Kq=N at*;have e:W.eq (.mk s a b c i u p ps) (.mk false [] [] 0 false 0 p [])=(q0 s a b&&(c==0) && !i&&(u==0)&&ps.isEmpty):=by
   simp only[W.eq,Az DX,zF,vE];cases i<;>simp
  rw[e]at t2;refine Ca.bO (n:=N+90) ?_;rw[aB rfl (aN 149 f149:E0.fn _=_) rfl];rw[dV];rw[if_neg ae,if_neg ae,if_neg ae,if_neg ae];generalize (q0 s a b&&(c==0) && !i&&(u==0)&&ps.isEmpty)=r2,uX none p=r1 at*;simp only[W.d,W.ds,PD,LD]at*;generalize LL a=x1,LL b=x2,W.ds ps=x4 at*;simp only[Qc2,LL]at*;generalize List.map Mo.d p=x3 at*;cases r1
  ·simp[f149,t1]
  ·simp[f149,t1,t2]
def Df:D:=.a [(.fn 108),(.fn 110),(.fn 111),(.fn 113),(.fn 115),(.fn 117),(.fn 118),(.fn 119),(.fn 121)]
theorem aa6 (n:Nat):CL E0 (n+40) 79 [] []=some (.d Df,none):=by
 rw[aB rfl (aN 79 f79:E0.fn _=_) rfl];unfold Df;simp[f79]
theorem Fp:qD (1:Rat)=raw false [1] []:=by
 have h1:qs (1:Rat)=false:=by unfold qs;rfl
 have h2:qn (1:Rat)=[1]:=by
  have:(1:Rat).num.natAbs=1:=rfl;unfold qn;rw[this];exact zB.2 rfl
 have h3:qd (1:Rat)=[]:=by
  have:(1:Rat).den=1:=rfl;unfold qd;rw[if_pos this]
 rw[qD,h1,h2,h3]
theorem Mh:G6 1 1=1:=by rw[aaT _ _ ae];simp;grind
def aa7:D:=.a [vB false,.s 1 [.v (.int .u32 1)],.s 1 [],vI 0,vB false,.v (.int .u64 0),.s 6 [],.s 8 []]
theorem Kl:Ca E0 112 [dI 1] (.d aa7,none):=by
 obtain⟨N,t⟩:=(WT 1 1 ae ae ae).get;rw[Mh,Fp]at t;refine Ca.bO (n:=N+80) ?_;rw[aB rfl (aN 112 f112:E0.fn _=_) rfl];unfold aa7;simp only[raw,LD,LL,Qe1,Qc2,Int.natCast_one]at t;simp[f112,lY,t]
theorem RJ:qz (1:Rat)<=1:=by
 have h1:(1:Rat).num.natAbs=1:=rfl;have h2:(1:Rat).den=1:=rfl;unfold qz;rw[h1,h2,J3];omega
theorem Xn (w:W)(hw:w.OK):Ca E0 133 [.d w.d] (dB (dV 3 w),none):=by
 have hc1:=Mg w hw;cases hw with
 | @mk s a b c i u p ps ha hb la lb hp lp h =>
  rw[dV,if_pos rfl]at hc1;rw[dV,if_neg ae,if_neg ae,if_pos rfl];have a79:=aa6;obtain⟨n1,t1⟩:=hc1.any;cases hv:dC s a b
  ·rw[hv]at t1;simp only[Qs1]at t1 ⊢;replace t1:=t1 n1 ae;refine Ca.bO (n:=n1+90) ?_;rw[aB rfl (k133:E0.fn _=_) rfl];simp only[W.d,W.ds,PD,raw,LD,Df]at*;generalize LL a=x1,LL b=x2,W.ds ps=x4,List.map Mo.d p=x3 at*;simp[f133,a79,t1]
  ·rw[hv]at t1;simp only[Ql0]at t1 ⊢;have hq:=nR ha hb hv;have hz:=lZ ha hb 1000 la lb ae hv;obtain⟨n2,t2⟩:=(vg (bL s a b) ae).any;obtain⟨n3,t3⟩:=(yA (bL s a b) 1 ae (by have:=RJ;omega)).any;obtain⟨n4,t4⟩:=Kl.any;rw[Fp]at t3;rw[<-hq]at t2 t3;have e3:(!decide ((1:Rat)<bL s a b))=decide ((bL s a b-1).num.sign<=0):=by
    have:=(Hl (bL s a b) 1).2;rw[<-decide_not]
    congr 1
    rw[<-this];simp only[Int.not_lt]
   rw[e3];clear e3 hq hz;generalize (bL s a b-1).num.sign=g2,(bL s a b).num.sign=g1,((c==0) && !i&&(u==0)&&p.isEmpty&&ps.isEmpty)=r2 at*;replace t1:=t1 (n1+n2+n3+n4) ae;replace t2:=t2 (n1+n2+n3+n4) ae;replace t3:=t3 (n1+n2+n3+n4) ae;replace t4:=t4 (n1+n2+n3+n4) ae;generalize n1+n2+n3+n4=N at*;refine Ca.bO (n:=N+90) ?_;rw[aB rfl (k133:E0.fn _=_) rfl];simp only[W.d,W.ds,PD,raw,LD,Df,aa7]at*;simp only[LL,Qe1,Qc2,Int.natCast_one]at t3;simp only[<-show ∀ l:List Nat,LL l=List.map (fun(x:Nat)=>D.v (Value.int IntKind.u32 (x:Int))) l from fun _=>rfl]at t3;generalize LL a=x1,LL b=x2,W.ds ps=x4,List.map Mo.d p=x3 at*;cases r2
   ·simp[f133,a79,t1]
   ·by_cases h1:0<=g1
    ·by_cases h2:g2<=0
     ·simp[f133,a79,t1,t2,t3,t4,h1,h2]
     ·simp[f133,a79,t1,t2,t3,t4,h1,h2]
    ·simp[f133,a79,t1,t2,h1]
theorem nT (ps:List W):(ps.isEmpty=true/\(W.ds ps).length=0)\/(ps.isEmpty=false/\∃ m,(W.ds ps).length=m+1):=by
 cases ps with
 | nil=>exact .inl ⟨rfl,rfl⟩
 | cons x r=>exact .inr ⟨rfl,(W.ds r).length,by simp[W.ds]⟩
theorem qO (p:List Mo):(p.isEmpty=true/\(p.map Mo.d).length=0)\/(p.isEmpty=false/\∃ m,(p.map Mo.d).length=m+1):=by
 cases p with
 | nil=>exact .inl ⟨rfl,rfl⟩
 | cons x r=>exact .inr ⟨rfl,r.length,aC⟩
theorem Km (w:W)(hw:w.OK):Ca E0 66 [dI 1,.d w.d] (dB (dV 1 w),none):=by
 cases hw with
 | @mk s a b c i u p ps ha hb la lb hp lp h =>
  have hps:=nT ps;have hpo:=qO p;obtain⟨n1,t1⟩:=(l6 s false a b [] [] ae ae aC aC).any;rw[vE]at t1;rw[dV,if_pos rfl];obtain⟨n2,t2⟩:=(rY s a b ae ae ha hb).any;replace t1:=t1 (n1+n2) ae;replace t2:=t2 (n1+n2) ae;generalize n1+n2=N at*;refine Ca.bO (n:=N+90) ?_;rw[aB rfl (k66:E0.fn _=_) rfl];generalize dC s a b=r2,q0 s a b=nn at*;simp only[W.d,PD,raw,LD]at*;generalize LL a=x1,LL b=x2,W.ds ps=x4,List.map Mo.d p=x3,ps.isEmpty=be,p.isEmpty=bp at*;simp only[LL,Qc2]at t1;have e1:(c != 0) = !(c==0):=rfl;have e2:(u != 0) = !(u==0):=rfl;rcases hps with ⟨rfl,hps⟩|⟨rfl,m,hps⟩
  ·skip
   cases i
   ·cases h3:(c==0)
    ·rw[h3]at e1;simp[f66,t1,hps,e1]
    ·rw[h3]at e1;cases h4:(u==0)
     ·rw[h4]at e2;simp[f66,t1,hps,e1,e2]
     ·rw[h4]at e2;rcases hpo with ⟨rfl,hpo⟩|⟨rfl,m,hpo⟩
      ·skip
       simp[f66,t1,hps,e1,e2,hpo,t2]
      ·simp[f66,t1,hps,e1,e2,hpo]
   ·simp[f66,t1,hps]
  ·simp[f66,t1,hps]
theorem Ko (w:W)(hw:w.OK):Ca E0 66 [dI 2,.d w.d] (dB (dV 2 w),none):=by
 cases hw with
 | @mk s a b c i u p ps ha hb la lb hp lp h =>
  have hps:=nT ps;have hpo:=qO p;obtain⟨n1,t1⟩:=(l6 s false a b [] [] ae ae aC aC).any;rw[vE]at t1;rw[dV,if_neg ae,if_pos rfl];replace t1:=t1 (n1) ae;replace t1:=t1;refine Ca.bO (n:=n1+90) ?_;rw[aB rfl (k66:E0.fn _=_) rfl];generalize q0 s a b=nn at*;simp only[W.d,PD,raw,LD]at*;generalize LL a=x1,LL b=x2,W.ds ps=x4,List.map Mo.d p=x3,ps.isEmpty=be,p.isEmpty=bp at*;simp only[LL,Qc2]at t1;have e1:(c != 0) = !(c==0):=rfl;have e2:(u != 0) = !(u==0):=rfl;rcases hps with ⟨rfl,hps⟩|⟨rfl,m,hps⟩
  ·skip
   cases nn
   ·simp[f66,t1,hps]
   ·skip
    cases h4:(u==0)
    ·rw[h4]at e2;simp[f66,t1,hps,e2]
    ·rw[h4]at e2;rcases hpo with ⟨rfl,hpo⟩|⟨rfl,m,hpo⟩
     ·skip
      by_cases h1:0<=c
      ·by_cases h2:c<=1099511627776
       ·cases i
        ·simp[f66,t1,hps,e2,hpo,h1,h2]
        ·cases h3:(c==0)
         ·rw[h3]at e1;simp[f66,t1,hps,e2,hpo,h1,h2,e1]
         ·rw[h3]at e1;simp[f66,t1,hps,e2,hpo,h1,h2,e1]
       ·simp[f66,t1,hps,e2,hpo,h1,h2]
      ·simp[f66,t1,hps,e2,hpo,h1]
     ·simp[f66,t1,hps,e2,hpo]
  ·simp[f66,t1,hps]
theorem Kr (w:W)(hw:w.OK):Ca E0 66 [dI 4,.d w.d] (dB (dV 4 w),none):=by
 cases hw with
 | @mk s a b c i u p ps ha hb la lb hp lp h =>
  have hps:=nT ps;have hpo:=qO p;obtain⟨n1,t1⟩:=(l6 s false a b [] [] ae ae aC aC).any;rw[vE]at t1;rw[dV,if_neg ae,if_neg ae,if_neg ae,if_pos rfl];replace t1:=t1 (n1) ae;replace t1:=t1;refine Ca.bO (n:=n1+90) ?_;rw[aB rfl (k66:E0.fn _=_) rfl];generalize q0 s a b=nn at*;simp only[W.d,PD,raw,LD]at*;generalize LL a=x1,LL b=x2,W.ds ps=x4,List.map Mo.d p=x3,ps.isEmpty=be,p.isEmpty=bp at*;simp only[LL,Qc2]at t1;have e1:(c != 0) = !(c==0):=rfl;have e2:(u != 0) = !(u==0):=rfl;rcases hps with ⟨rfl,hps⟩|⟨rfl,m,hps⟩
  ·skip
   cases nn
   ·simp[f66,t1,hps]
   ·skip
    cases i
    ·cases h3:(c==0)
     ·rw[h3]at e1;simp[f66,t1,hps,e1]
     ·rw[h3]at e1;rcases hpo with ⟨rfl,hpo⟩|⟨rfl,m,hpo⟩
      ·skip
       simp[f66,t1,hps,e1,hpo]
      ·simp[f66,t1,hps,e1,hpo]
    ·simp[f66,t1,hps]
  ·simp[f66,t1,hps]
theorem Kt (w:W)(hw:w.OK):Ca E0 66 [dI 5,.d w.d] (dB (dV 5 w),none):=by
 cases hw with
 | @mk s a b c i u p ps ha hb la lb hp lp h =>
  have hps:=nT ps;have hpo:=qO p;obtain⟨n1,t1⟩:=(l6 s false a b [] [] ae ae aC aC).any;rw[vE]at t1;rw[dV,if_neg ae,if_neg ae,if_neg ae,if_neg ae];obtain⟨n2,t2⟩:=(DV p hp).any;replace t1:=t1 (n1+n2) ae;replace t2:=t2 (n1+n2) ae;generalize n1+n2=N at*;refine Ca.bO (n:=N+90) ?_;rw[aB rfl (k66:E0.fn _=_) rfl];generalize uX none p=r2,q0 s a b=nn at*;simp only[W.d,PD,raw,LD]at*;generalize LL a=x1,LL b=x2,W.ds ps=x4,List.map Mo.d p=x3,ps.isEmpty=be,p.isEmpty=bp at*;simp only[LL,Qc2]at t1;have e1:(c != 0) = !(c==0):=rfl;have e2:(u != 0) = !(u==0):=rfl;rcases hps with ⟨rfl,hps⟩|⟨rfl,m,hps⟩
  ·skip
   cases nn
   ·simp[f66,t1,hps]
   ·skip
    cases i
    ·cases h3:(c==0)
     ·rw[h3]at e1;simp[f66,t1,hps,e1]
     ·rw[h3]at e1;cases h4:(u==0)
      ·rw[h4]at e2;simp[f66,t1,hps,e1,e2]
      ·rw[h4]at e2;simp[f66,t1,hps,e1,e2,t2]
    ·simp[f66,t1,hps]
  ·simp[f66,t1,hps]
theorem Ku (w:W)(hw:w.OK):Ca E0 66 [dI 3,.d w.d] (dB (dV 3 w),none):=by
 cases hw with
 | @mk s a b c i u p ps ha hb la lb hp lp h =>
  have hps:=nT ps;have hpo:=qO p;obtain⟨n1,t1⟩:=(l6 s false a b [] [] ae ae aC aC).any;rw[vE]at t1;obtain⟨n2,t2⟩:=(rY s a b ae ae ha hb).any;rw[dV,if_neg ae,if_neg ae,if_pos rfl];obtain⟨n3,t3⟩:=(aa2 1 1 ae ae ae).any;rw[Mh,Fp]at t3;have hx:∃ n4,dC s a b=true->(∀ n,n4<=n->∀ k,CL E0 (n+k) 98 [.d (raw s a b)] []=some (dI (bL s a b).num.sign,none)) /\
    (∀ n,n4<=n->∀ k,CL E0 (n+k) 55 [.d (raw false [1] []),.d (raw s a b)] []=some (dB (decide ((1:Rat)<bL s a b)),none)):=by
   cases hv:dC s a b
   ·exact⟨0,fun h=>by cases h⟩
   ·have hq:=nR ha hb hv;have hz:=lZ ha hb 1000 la lb ae hv;obtain⟨m1,s1⟩:=(l5 (bL s a b) ae).any;obtain⟨m2,s2⟩:=(Hm 1 (bL s a b) (by have:=RJ;omega) ae).any;rw[<-hq]at s1 s2;rw[Fp]at s2;exact⟨m1+m2,fun _=>⟨fun n hn k=>s1 n ae k,fun n hn k=>s2 n ae k⟩⟩
  obtain⟨n4,hx⟩:=hx;replace t1:=t1 (n1+n2+n3+n4) ae;replace t2:=t2 (n1+n2+n3+n4) ae;replace t3:=t3 (n1+n2+n3+n4) ae;have hx':dC s a b=true->(∀ k,CL E0 (n1+n2+n3+n4+k) 98 [.d (raw s a b)] []=some (dI (bL s a b).num.sign,none)) /\
    (∀ k,CL E0 (n1+n2+n3+n4+k) 55 [.d (raw false [1] []),.d (raw s a b)] []=some (dB (decide ((1:Rat)<bL s a b)),none)):=fun hv=>⟨(hx hv).1 _ ae,(hx hv).2 _ ae⟩
  clear hx;generalize n1+n2+n3+n4=N at*;refine Ca.bO (n:=N+90) ?_;rw[aB rfl (k66:E0.fn _=_) rfl];generalize dC s a b=r2,q0 s a b=nn,(bL s a b).num.sign=g1 at*;generalize decide ((1:Rat)<bL s a b)=g2 at*;simp only[W.d,PD,raw,LD]at*;have e11:LL [1]=[D.v (.int .u32 1)]:=rfl;have e12:LL []=[]:=rfl;simp only[e11,e12]at t1 t3 hx';generalize LL a=x1,LL b=x2,W.ds ps=x4,List.map Mo.d p=x3,ps.isEmpty=be,p.isEmpty=bp at*;have e1:(c != 0) = !(c==0):=rfl;have e2:(u != 0) = !(u==0):=rfl;rcases hps with ⟨rfl,hps⟩|⟨rfl,m,hps⟩
  ·cases i
   ·cases h3:(c==0)
    ·rw[h3]at e1;simp[f66,t1,hps,e1]
    ·rw[h3]at e1;cases h4:(u==0)
     ·rw[h4]at e2;simp[f66,t1,hps,e1,e2]
     ·rw[h4]at e2;rcases hpo with ⟨rfl,hpo⟩|⟨rfl,m,hpo⟩
      ·cases r2
       ·simp[f66,t1,hps,e1,e2,hpo,t2]
       ·obtain⟨hx1,hx2⟩:=hx' rfl
        by_cases hg:0<=g1
        ·cases g2
         ·simp[f66,t1,hps,e1,e2,hpo,t2,t3,hx1,hx2,hg]
         ·simp[f66,t1,hps,e1,e2,hpo,t2,t3,hx1,hx2,hg]
        ·simp[f66,t1,hps,e1,e2,hpo,t2,hx1,hg]
      ·simp[f66,t1,hps,e1,e2,hpo]
   ·simp[f66,t1,hps]
  ·simp[f66,t1,hps]
theorem DY (k:Int)(hk:single k=true)(w:W)(hw:w.OK):Ca E0 66 [dI k,.d w.d] (dB (dV k w),none):=by
 have:k=1\/k=2\/k=3\/k=4\/k=5:=by
  simp only[single,Qa2,decide_eq_true_eq]at hk;omega
 rcases this with rfl|rfl|rfl|rfl|rfl
 ·exact Km w hw
 ·exact Ko w hw
 ·exact Ku w hw
 ·exact Kr w hw
 ·exact Kt w hw
def qP:FV:=.d (.a [(.fn 149),(.fn 151),(.fn 152),(.fn 154),(.fn 156),(.fn 158),(.fn 118),(.fn 160),(.fn 163)])
def qQ:FV:=.d Df
def oM:List FV:=[(.d (.fn 122)),(.d (.fn 123)),(.d (.fn 124)),(.d (.fn 125)),(.d (.fn 127)),(.f 195 [] [(.r (.old 3) 0)]),(.d (.fn 126)),(.d (.fn 128)),(.f 131 [] [(.r (.old 2) 0)])]
def uk:FV:=.a oM
def qR:List ai:=[.box oM,.box oM,.box oM,.box [(.d (.fn 124))]]
def oN:List FV:=[(.d (.fn 133)),(.d (.fn 110)),(.d (.fn 111)),(.f 137 [] [(.r (.old 2) 0)]),(.d (.fn 115)),(.f 195 [] [(.r (.old 3) 0)]),(.d (.fn 136)),(.d (.fn 119)),(.f 138 [] [(.r (.old 2) 0)])]
def um:FV:=.a oN
def qU:List ai:=[.box oN,.box oN,.box oN,.box [(.d (.fn 111))]]
def oO:List FV:=[(.d (.fn 139)),(.d (.fn 140)),(.d (.fn 141)),(.d (.fn 142)),(.d (.fn 143)),(.f 195 [] [(.r (.old 3) 0)]),(.d (.fn 118)),(.d (.fn 144)),(.f 147 [] [(.r (.old 2) 0)])]
def uo:FV:=.a oO
def qV:List ai:=[.box oO,.box oO,.box oO,.box [(.d (.fn 141))]]
theorem AB:dx E0 60 42 [dI 1] []=some (qQ,none):=by kernel_rfl
theorem AJ:dx E0 60 42 [dI 5] []=some (qP,none):=by kernel_rfl
theorem AL:dx E0 60 42 [dI 2] []=some (uk,some qR):=by kernel_rfl
theorem AO:dx E0 60 42 [dI 3] []=some (um,some qU):=by kernel_rfl
theorem AP:dx E0 60 42 [dI 4] []=some (uo,some qV):=by kernel_rfl
theorem tH {N g:Nat}{args:List FV}{r:FV × Option (List ai)}(h:dx E0 N g args []=some r)(m:Nat)(hm:N<=m):CL E0 m g args []=some r:=by rw[iZ];exact xB h hm
def AQ (k:Int):Nat:=if k=1 then 108 else if k=2 then 122 else if k=3 then 133 else if k=4 then 139 else 149
theorem bR {k:Int}(hk:single k=true):k=1\/k=2\/k=3\/k=4\/k=5:=by
 simp only[single,Qa2,decide_eq_true_eq]at hk;omega
theorem RL (k:Int)(hk:single k=true)(w:W)(hw:w.OK):Ca E0 (AQ k) [.d w.d] (dB (dV k w),none):=by
 rcases bR hk with rfl|rfl|rfl|rfl|rfl
 ·exact Mg w hw
 ·exact Xk w hw
 ·exact Xn w hw
 ·exact Xl w hw
 ·exact Xm w hw
def W.ps:W->List W
 | .mk _ _ _ _ _ _ _ ps=>ps
def W.bare:W->Bool
 | .mk s a b c i u p _=>q0 s a b&&(c==0) && !i&&(u==0)&&p.isEmpty
def qE:List Int->List W->Bool
 | k::r,w::s=>dV k w&&qE r s
 | _,_=>true
def bU (k:Int)(ps:List Int)(w:W):Bool:=aR k ps&&(if k≠6 then dV k w else(w.ps.length==ps.length)&&w.bare&&qE ps w.ps)
mutual
theorem W.Fq:∀ w:W,w.eq w=true
 | .mk s a b c i u p ps=>by
  simp only[W.eq,Az DX,W.vF ps];simp
theorem W.vF:∀ l:List W,W.eqs l l=true
 | []=>rfl
 | w::r=>by simp[W.eqs,W.Fq w,W.vF r]
end
theorem eq_bare (s:Bool)(a b:List Nat)(c:Int)(i:Bool)(u:Int)(p:List Mo)(ps:List W):W.eq (.mk s a b c i u p ps) (.mk false [] [] 0 false 0 [] ps)=W.bare (.mk s a b c i u p ps):=by
 simp only[W.eq,zD,W.vF,vE,W.bare];cases i<;>simp
theorem RN (s:Bool)(a b:List Nat)(c:Int)(i:Bool)(u:Int)(p:List Mo)(ps:List W):W.eq (.mk false [] [] 0 false 0 [] ps) (.mk s a b c i u p ps)=W.bare (.mk s a b c i u p ps):=by
 have e1:(false==s&&decide ([]=a)&&decide ([]=b))=q0 s a b:=by
  unfold q0;have h1:decide (([]:List Nat)=a)=decide (a=[]):=by congr 1;exact propext ⟨fun h=>h.symm,fun h=>h.symm⟩
  have h2:decide (([]:List Nat)=b)=decide (b=[]):=by congr 1;exact propext ⟨fun h=>h.symm,fun h=>h.symm⟩
  rw[h1,h2];cases s<;>rfl
 have e2:∀ l:List Mo,iD Mo.eq [] l=l.isEmpty:=by intro l;cases l<;>rfl
 have e3:∀ x:Int,((0:Int)==x)=(x==0):=by
  intro x
  by_cases h:x=0
  ·rw[h]
  ·rw[beq_eq_false_iff_ne.2 h,beq_eq_false_iff_ne.2 (Ne.symm h)]
 simp only[W.eq,e1,e2,e3,W.vF,W.bare];cases i<;>simp
def Kv:aF:=f18.body.r.r.r.r.l.r.bl.lp
def VS (rb:ai)(wb:List FV)(ks:List Int)(j:Nat)(bs:List ai)(t:FV):St:=(st0 [.u,.u,.u,rL 1,.u,.u,.u,.u,.u,.u,.d (.s 1 (LK .i64 ks)),dI ks.length,dI j,t,.u] (rb::.box wb::bs))
def ckF (rb:ai)(wb:List FV)(bs:List ai):St:=(st0 (.u::.u::.u::.u::dB false::oD) (rb::.box wb::bs))
theorem RO (rb:ai)(p1 p2 p3 p4 p5 p6 p7:D)(ws:List W)(ks:List Int)(j:Nat)(bs:List ai)(k:Int)(w:W)(hl:ks.length<=1000000)(hk:ks[j]?=some k)(hw:ws[j]?=some w)(hs:single k=true)(ok:w.OK) :
  ∃ bs',Ex E0 Kv (VS rb [.d p1,.d p2,.d p3,.d p4,.d p5,.d p6,.d p7,.d (.s 8 (W.ds ws))] ks j bs .u)
   (if dV k w then(.norm,VS rb [.d p1,.d p2,.d p3,.d p4,.d p5,.d p6,.d p7,.d (.s 8 (W.ds ws))] ks (j+1) bs' .u) else(.ret,ckF rb [.d p1,.d p2,.d p3,.d p4,.d p5,.d p6,.d p7,.d (.s 8 (W.ds ws))] bs')):=by
 have hj:=(aS hk)
 have hj2:=(aS hw)
 obtain⟨n1,t1⟩:=(RL k hs w ok).any;replace t1:=t1 (n1+60) ae;have n1':(LK .i64 ks).length=ks.length:=by simp[LK]
 have Kk:(W.ds ws).length=ws.length:=by simp[W.fI]
 have e1:(LK .i64 ks)[j]?=some (vI k):=by simp[LK,hk]
 have e2:(W.ds ws)[j]?=some w.d:=by simp[W.fI,hw]
 have aP:av .i64 ((j:Int)+1)=(j:Int)+1:=wrap_i64 ae;have hk1:((j+1:Nat):Int)=(j:Int)+1:=ae;have hk0:(0:Int)<=(j:Int):=ae;obtain⟨vv,hvv⟩:∃ vv,dV k w=vv:=⟨_,rfl⟩
 rw[hvv]at t1 ⊢;obtain⟨sx,ax,bx,cx,ix,ux,px,DW⟩:=w;simp only[W.d,PD,LD]at*;generalize LL ax=x1,LL bx=x2,List.map Mo.d px=x5,W.ds DW=x7 at*;unfold VS ckF;rw[hk1];generalize W.ds ws=es2 at*;have i2:=idx e2;have five:=bR hs;clear hs ok hvv hw;rcases five with rfl|rfl|rfl|rfl|rfl
 ·have t2:=fun m=>tH AB (n1+60+m) ae
  have hF:AQ 1=108:=rfl;rw[hF]at t1;clear hk;generalize LK .i64 ks=es1 at*;have i1:=idx e1;generalize n1+60=N at*;refine⟨bs,Ex.of (n:=N+300) ?_⟩;simp only[qQ,Df]at t2 ⊢;cases vv
  ·simp[Kv,f18,hj,hj2,hk0,i1,i2,n1',Kk,t1,t2]
  ·simp[Kv,f18,hj,hj2,hk0,i1,i2,n1',Kk,t1,t2,aP]
 ·have t2:=fun m=>tH AL (n1+60+m) ae
  have hF:AQ 2=122:=rfl;rw[hF]at t1;clear hk;generalize LK .i64 ks=es1 at*;have i1:=idx e1;generalize n1+60=N at*;refine⟨bs++qR.map (ai.shift (bs.length+2)),Ex.of (n:=N+300) ?_⟩;simp only[uk,oM,qR]at t2 ⊢;cases vv
  ·simp[Kv,f18,hj,hj2,hk0,i1,i2,n1',Kk,t1,t2]
  ·simp[Kv,f18,hj,hj2,hk0,i1,i2,n1',Kk,t1,t2,aP]
 ·have t2:=fun m=>tH AO (n1+60+m) ae
  have hF:AQ 3=133:=rfl;rw[hF]at t1;clear hk;generalize LK .i64 ks=es1 at*;have i1:=idx e1;generalize n1+60=N at*;refine⟨bs++qU.map (ai.shift (bs.length+2)),Ex.of (n:=N+300) ?_⟩;simp only[um,oN,qU]at t2 ⊢;cases vv
  ·simp[Kv,f18,hj,hj2,hk0,i1,i2,n1',Kk,t1,t2]
  ·simp[Kv,f18,hj,hj2,hk0,i1,i2,n1',Kk,t1,t2,aP]
 ·have t2:=fun m=>tH AP (n1+60+m) ae
  have hF:AQ 4=139:=rfl;rw[hF]at t1;clear hk;generalize LK .i64 ks=es1 at*;have i1:=idx e1;generalize n1+60=N at*;refine⟨bs++qV.map (ai.shift (bs.length+2)),Ex.of (n:=N+300) ?_⟩;simp only[uo,oO,qV]at t2 ⊢;cases vv
  ·simp[Kv,f18,hj,hj2,hk0,i1,i2,n1',Kk,t1,t2]
  ·simp[Kv,f18,hj,hj2,hk0,i1,i2,n1',Kk,t1,t2,aP]
 ·have t2:=fun m=>tH AJ (n1+60+m) ae
  have hF:AQ 5=149:=rfl;rw[hF]at t1;clear hk;have i1:=idx e1;generalize n1+60=N at*;refine⟨bs,Ex.of (n:=N+300) ?_⟩;simp only[qP]at t2 ⊢;cases vv
  ·simp[Kv,f18,hj,hj2,hk0,i1,i2,n1',Kk,t1,t2]
  ·simp[Kv,f18,hj,hj2,hk0,i1,i2,n1',Kk,t1,t2,aP]
theorem Xo (rb:ai)(p1 p2 p3 p4 p5 p6 p7:D)(ws:List W)(ks:List Int)(hl:ks.length<=1000000)(he:ws.length=ks.length)(hs:ks.all single=true)(ok:∀ w ∈ ws,w.OK) :
  ∃ r,Ex E0 (.loop Kv) (VS rb [.d p1,.d p2,.d p3,.d p4,.d p5,.d p6,.d p7,.d (.s 8 (W.ds ws))] ks 0 [] .u) r /\
   ((qE ks ws=true/\∃ bs,r=(.exit 0,VS rb [.d p1,.d p2,.d p3,.d p4,.d p5,.d p6,.d p7,.d (.s 8 (W.ds ws))] ks ks.length bs (dB false))) \/
    (qE ks ws=false/\∃ bs,r=(.ret,ckF rb [.d p1,.d p2,.d p3,.d p4,.d p5,.d p6,.d p7,.d (.s 8 (W.ds ws))] bs))):=by
 refine Ex.inv (S:=fun t:Nat × List ai=>VS rb [.d p1,.d p2,.d p3,.d p4,.d p5,.d p6,.d p7,.d (.s 8 (W.ds ws))] ks t.1 t.2 .u) (fun t=>ks.length-t.1) (fun t=>t.1<=ks.length/\qE ks ws=qE (ks.drop t.1) (ws.drop t.1)) _ ?_ (0,[]) ⟨aC,aC⟩;rintro⟨j,bs⟩ ⟨q1,q2⟩;simp only at q1 q2
 by_cases hj:j<ks.length
 ·have hk:ks[j]?=some (ks[j]'hj):=Qa1 hj;have hw:ws[j]?=some (ws[j]'(by omega)):=Qa1 ae;have d1:ks.drop j=ks[j]'hj::ks.drop (j+1):=Qi2 hj;have d2:ws.drop j=ws[j]'(by omega)::ws.drop (j+1):=Qi2 ae;obtain⟨bs',hr⟩:=RO rb p1 p2 p3 p4 p5 p6 p7 ws ks j bs _ _ hl hk hw (Qf0.1 hs _ (Qj1 hj)) (ok _ (Qj1 ae));rw[d1,d2]at q2;simp only[qE]at q2;cases hv:dV (ks[j]'hj) (ws[j]'(by omega))
  ·rw[hv]at hr q2;exact .inr ⟨_,hr,aC,.inr ⟨by simpa using q2,bs',rfl⟩⟩
  ·rw[hv]at hr q2;exact .inl ⟨(j+1,bs'),hr,by simp only;omega,by simp only;omega,by simpa using q2⟩
 ·have dw:j=ks.length:=ae;subst dw;rw[Qp2]at q2;refine .inr ⟨_,Ex.of (n:=60) ?_,?_,.inl ⟨by rw[q2];rfl,bs,rfl⟩⟩
  ·unfold VS;generalize W.ds ws=l2,ks.length=m at*;simp[Kv,f18]
  ·simp
theorem N7 (ps:List Int)(w:W)(hl:ps.length<=1000000)(hw:w.OK)(vG:aR 6 ps=true)(hv:∀ n,CL E0 (n+500) 31 [.d (bD 6 ps)] []=some (dB true,none)) :
  Ca E0 18 [.d (bD 6 ps),.d w.d] (dB ((w.ps.length==ps.length)&&w.bare&&qE ps w.ps),none):=by
 have hs:ps.all single=true:=by
  unfold aR at vG;rw[if_neg aC]at vG;simp only[Qa2]at vG;exact vG.2
 have ok:=hw;cases hw with
 | @mk s a b c i u p ws ha hb la lb hp lp hok =>
  simp only[W.ps];have n1:(LK .i64 ps).length=ps.length:=by simp[LK]
  have n2:(W.ds ws).length=ws.length:=by simp[W.fI]
  obtain⟨N,t⟩:=(jl _ ok _ (.mk (s:=false) (a:=[]) (b:=[]) (c:=0) (i:=false) (u:=0) (p:=[]) kr kr aC aC AA lp hok)).any;rw[eq_bare]at t;generalize hbare:W.bare (.mk s a b c i u p ws)=bare at*
  by_cases hlen:ws.length=ps.length
  ·have hl1:(ws.length==ps.length)=true:=by simpa using hlen
   have hne:((ws.length:Int) != (ps.length:Int))=false:=by simp;omega
   rw[hl1,Ql0];cases hbb:bare
   ·rw[hbb]at t;rw[Qs1];replace t:=t N ae;refine Ca.bO (n:=N+700) ?_;rw[aB rfl (k18:E0.fn _=_) rfl];have hv':=fun n=>hv (N+n)
    simp only[W.d,W.ds,PD,LD,bD]at*;generalize LL a=x1,LL b=x2 at*;simp only[LL,Qc2]at*;generalize List.map Mo.d p=x5,W.ds ws=x7,LK .i64 ps=l1 at*;simp[f18,hv,t,n1,n2,hne]
   ·rw[hbb]at t;rw[Ql0];obtain⟨r,hr,hq⟩:=Xo (.box [dI 6,.d (.s 1 (LK .i64 ps))]) (vB s) (LD a) (LD b) (vI c) (vB i) (.v (.int .u64 u)) (PD p) ws ps hl hlen hs hok;replace t:=t N ae;have hA:Ex E0 f18.body.l (st0 (.d (bD 6 ps)::.d (W.mk s a b c i u p ws).d::Gu) [])
      (.norm,(st0 (.u::.u::rL 0::rL 1::Gt) [.box [dI 6,.d (.s 1 (LK .i64 ps))],.box [dB s,.d (LD a),.d (LD b),dI c,dB i,.d (.v (.int .u64 u)),.d (PD p),.d (.s 8 (W.ds ws))]])):=by
     refine Ex.of (n:=40) ?_;simp only[W.d,PD,LD,bD];generalize LL a=x1,LL b=x2,List.map Mo.d p=x5,W.ds ws=x7,LK .i64 ps=l1 at*;simp[f18]
    have hB:Ex E0 f18.body.r.l (st0 (.u::.u::rL 0::rL 1::Gt) [.box [dI 6,.d (.s 1 (LK .i64 ps))],.box [dB s,.d (LD a),.d (LD b),dI c,dB i,.d (.v (.int .u64 u)),.d (PD p),.d (.s 8 (W.ds ws))]])
      (.norm,(st0 (.u::.u::rL 0::rL 1::.u::.u::.u::dB false::nO) [.box [dI 6,.d (.s 1 (LK .i64 ps))],.box [dB s,.d (LD a),.d (LD b),dI c,dB i,.d (.v (.int .u64 u)),.d (PD p),.d (.s 8 (W.ds ws))]])):=by
     clear hr hq hA;refine Ex.of (n:=600) ?_;simp only[PD,LD,bD]at hv ⊢;generalize LL a=x1,LL b=x2,List.map Mo.d p=x5,W.ds ws=x7,LK .i64 ps=l1 at*;simp[f18,hv]
    have hC:Ex E0 f18.body.r.r.l (st0 (.u::.u::rL 0::rL 1::.u::.u::.u::dB false::nO) [.box [dI 6,.d (.s 1 (LK .i64 ps))],.box [dB s,.d (LD a),.d (LD b),dI c,dB i,.d (.v (.int .u64 u)),.d (PD p),.d (.s 8 (W.ds ws))]])
      (.norm,(st0 (.u::.u::rL 0::rL 1::.u::.u::.u::.u::dB false::qm) [.box [dI 6,.d (.s 1 (LK .i64 ps))],.box [dB s,.d (LD a),.d (LD b),dI c,dB i,.d (.v (.int .u64 u)),.d (PD p),.d (.s 8 (W.ds ws))]])):=by
     apply e6;simp only[PD,LD];generalize LL a=x1,LL b=x2,List.map Mo.d p=x5,W.ds ws=x7,LK .i64 ps=l1 at*;simp[f18]
    have hD:Ex E0 f18.body.r.r.r.l (st0 (.u::.u::rL 0::rL 1::.u::.u::.u::.u::dB false::qm) [.box [dI 6,.d (.s 1 (LK .i64 ps))],.box [dB s,.d (LD a),.d (LD b),dI c,dB i,.d (.v (.int .u64 u)),.d (PD p),.d (.s 8 (W.ds ws))]])
      (.norm,(st0 [.u,.u,rL 0,rL 1,.u,.u,.u,.u,.u,dB false,.u,.u,.u,.u,.u] [.box [dI 6,.d (.s 1 (LK .i64 ps))],.box [dB s,.d (LD a),.d (LD b),dI c,dB i,.d (.v (.int .u64 u)),.d (PD p),.d (.s 8 (W.ds ws))]])):=by
     clear hr hq hA hB hC hv;refine Ex.of (n:=N+90) ?_;simp only[W.d,PD,LD,W.ds]at t ⊢;generalize LL a=x1,LL b=x2 at*;simp only[LL,Qc2]at t;generalize List.map Mo.d p=x5,W.ds ws=x7,LK .i64 ps=l1 at*;simp[f18,t,n1,n2,hne]
    have hE:Ex E0 f18.body.r.r.r.r.l.l (st0 [.u,.u,rL 0,rL 1,.u,.u,.u,.u,.u,dB false,.u,.u,.u,.u,.u] [.box [dI 6,.d (.s 1 (LK .i64 ps))],.box [dB s,.d (LD a),.d (LD b),dI c,dB i,.d (.v (.int .u64 u)),.d (PD p),.d (.s 8 (W.ds ws))]])
      (.norm,VS (.box [dI 6,.d (.s 1 (LK .i64 ps))]) [dB s,.d (LD a),.d (LD b),dI c,dB i,.d (.v (.int .u64 u)),.d (PD p),.d (.s 8 (W.ds ws))] ps 0 [] .u):=by
     apply e6;unfold VS;simp only[PD,LD];generalize LL a=x1,LL b=x2,List.map Mo.d p=x5,W.ds ws=x7,LK .i64 ps=l1 at*;simp[f18,n1]
    rcases hq with ⟨hall,bs,rfl⟩|⟨hall,bs,rfl⟩
    ·rw[hall];refine Ca.body (o:=.ret) (st1:=(st0 (.u::.u::.u::.u::dB true::oD) (.box [dI 6,.d (.s 1 (LK .i64 ps))]::.box [dB s,.d (LD a),.d (LD b),dI c,dB i,.d (.v (.int .u64 u)),.d (PD p),.d (.s 8 (W.ds ws))]::bs))) rfl (k18:E0.fn _=_) rfl ?_ (by intro id h;cases h) ?_
     ·show Ex E0 (.seq f18.body.l (.seq f18.body.r.l (.seq f18.body.r.r.l (.seq f18.body.r.r.r.l (.seq (.seq f18.body.r.r.r.r.l.l (.block 0 (.loop Kv))) f18.body.r.r.r.r.r))))) _ _;refine hA.seq (hB.seq (hC.seq (hD.seq ((hE.seq hr.block).seq (Ex.of (n:=40) ?_)))));unfold VS;generalize LK .i64 ps=l1 at*;simp[f18]
     ·simp[f18]
    ·rw[hall];refine Ca.body (o:=.ret) (st1:=ckF (.box [dI 6,.d (.s 1 (LK .i64 ps))]) [dB s,.d (LD a),.d (LD b),dI c,dB i,.d (.v (.int .u64 u)),.d (PD p),.d (.s 8 (W.ds ws))] bs) rfl (k18:E0.fn _=_) rfl ?_ (by intro id h;cases h) ?_
     ·show Ex E0 (.seq f18.body.l (.seq f18.body.r.l (.seq f18.body.r.r.l (.seq f18.body.r.r.r.l (.seq (.seq f18.body.r.r.r.r.l.l (.block 0 (.loop Kv))) f18.body.r.r.r.r.r))))) _ _;exact hA.seq (hB.seq (hC.seq (hD.seq (hE.seq hr.bG).bN)))
     ·simp[f18,ckF]
  ·have hl1:(ws.length==ps.length)=false:=by simpa using hlen
   have hne:((ws.length:Int) != (ps.length:Int))=true:=by simp;omega
   rw[hl1,Qs1,Qs1];refine Ca.bO (n:=700) ?_;rw[aB rfl (k18:E0.fn _=_) rfl];simp only[W.d,PD,LD,bD]at*;generalize LL a=x1,LL b=x2,List.map Mo.d p=x5,W.ds ws=x7 at*;simp[f18,hv,n1,n2,hne]
theorem N8 (k:Int)(ps:List Int)(w:W)(hk:k≠6)(hw:w.OK)(vG:aR k ps=true)(hv:∀ n,CL E0 (n+500) 31 [.d (bD k ps)] []=some (dB true,none)) :
  Ca E0 18 [.d (bD k ps),.d w.d] (dB (dV k w),none):=by
 have hne:(k != 6)=true:=by simpa using hk
 have hs:single k=true:=by
  unfold aR at vG;rw[if_pos hk]at vG;simp only[Qa2]at vG;exact vG.1
 obtain⟨n1,t1⟩:=(RL k hs w hw).any;replace t1:=t1 (n1+600) ae;have hv':∀ m,CL E0 (n1+600+m) 31 [.d (bD k ps)] []=some (dB true,none):=fun m=>by
  have:=hv (n1+100+m)
  rwa [show n1+100+m+500=n1+600+m by omega]at this
 clear hv;generalize dV k w=vv at*;clear vG hw;obtain⟨sx,ax,bx,cx,ix,ux,px,DW⟩:=w;simp only[W.d,PD,LD,bD]at*;generalize LL ax=x1,LL bx=x2,List.map Mo.d px=x5,W.ds DW=x7 at*;rcases bR hs with rfl|rfl|rfl|rfl|rfl
 ·have t2:=fun m=>tH AB (n1+600+m) ae
  have hF:AQ 1=108:=rfl;rw[hF]at t1;generalize n1+600=N at*;refine Ca.bO (n:=N+90) ?_;rw[aB rfl (k18:E0.fn _=_) rfl];simp only[qQ,Df]at t2;generalize LK .i64 ps=l1 at*;simp[f18,hv',t1,t2]
 ·have t2:=fun m=>tH AL (n1+600+m) ae
  have hF:AQ 2=122:=rfl;rw[hF]at t1;generalize n1+600=N at*;refine Ca.bO (n:=N+90) ?_;rw[aB rfl (k18:E0.fn _=_) rfl];simp only[uk,oM,qR]at t2;generalize LK .i64 ps=l1 at*;simp[f18,hv',t1,t2]
 ·have t2:=fun m=>tH AO (n1+600+m) ae
  have hF:AQ 3=133:=rfl;rw[hF]at t1;generalize n1+600=N at*;refine Ca.bO (n:=N+90) ?_;rw[aB rfl (k18:E0.fn _=_) rfl];simp only[um,oN,qU]at t2;generalize LK .i64 ps=l1 at*;simp[f18,hv',t1,t2]
 ·have t2:=fun m=>tH AP (n1+600+m) ae
  have hF:AQ 4=139:=rfl;rw[hF]at t1;generalize n1+600=N at*;refine Ca.bO (n:=N+90) ?_;rw[aB rfl (k18:E0.fn _=_) rfl];simp only[uo,oO,qV]at t2;generalize LK .i64 ps=l1 at*;simp[f18,hv',t1,t2]
 ·have t2:=fun m=>tH AJ (n1+600+m) ae
  have hF:AQ 5=149:=rfl;rw[hF]at t1;generalize n1+600=N at*;refine Ca.bO (n:=N+90) ?_;rw[aB rfl (k18:E0.fn _=_) rfl];simp only[qP]at t2;simp[f18,hv',t1,t2]
theorem AR (k:Int)(ps:List Int)(w:W)(hl:ps.length<=1000000)(hw:w.OK):Ca E0 18 [.d (bD k ps),.d w.d] (dB (bU k ps w),none):=by
 have hv:=fun n=>oK n k ps
 unfold bU;cases vG:aR k ps
 ·rw[vG]at hv;rw[Qs1];refine Ca.bO (n:=600) ?_;rw[aB rfl (k18:E0.fn _=_) rfl];obtain⟨sx,ax,bx,cx,ix,ux,px,DW⟩:=w;simp only[W.d,PD,LD,bD]at*;generalize LL ax=x1,LL bx=x2,List.map Mo.d px=x5,W.ds DW=x7 at*;simp[f18,hv]
 ·rw[vG]at hv;rw[Ql0]
  by_cases hk:k=6
  ·subst hk;rw[if_neg aC];exact N7 ps w hl hw vG hv
  ·rw[if_pos hk];exact N8 k ps w hk hw vG hv
def wcB:aF:=f29.body.r.r.r.r.l.r.bl.lp
def VT (k:Int)(ks:List Int)(wb:List FV)(j:Nat)(t:FV):St:=(st0 [.u,.u,rL 0,rL 1,.u,dI j,.u,.u,.u,t,.u] [.box [dI k,.d (.s 1 (LK .i64 ks))],.box wb])
def wcF (k:Int)(ks:List Int)(wb:List FV):St:=(st0 (.u::.u::.u::.u::dB false::qm) [.box [dI k,.d (.s 1 (LK .i64 ks))],.box wb])
theorem RP (k0:Int)(p1 p2 p3 p4 p5 p6 p7:D)(ws:List W)(ks:List Int)(j:Nat)(k:Int)(w:W)(hl:ks.length<=1000000)(hk:ks[j]?=some k)(hw:ws[j]?=some w)(hs:single k=true)(ok:w.OK) :
  Ex E0 wcB (VT k0 ks [.d p1,.d p2,.d p3,.d p4,.d p5,.d p6,.d p7,.d (.s 8 (W.ds ws))] j .u)
   (if dV k w then(.norm,VT k0 ks [.d p1,.d p2,.d p3,.d p4,.d p5,.d p6,.d p7,.d (.s 8 (W.ds ws))] (j+1) .u) else(.ret,wcF k0 ks [.d p1,.d p2,.d p3,.d p4,.d p5,.d p6,.d p7,.d (.s 8 (W.ds ws))])):=by
 have hj:=(aS hk)
 have hj2:=(aS hw)
 obtain⟨N,t1⟩:=(DY k hs w ok).get;have n1':(LK .i64 ks).length=ks.length:=by simp[LK]
 have Kk:(W.ds ws).length=ws.length:=by simp[W.fI]
 have e1:(LK .i64 ks)[j]?=some (vI k):=by simp[LK,hk]
 have e2:(W.ds ws)[j]?=some w.d:=by simp[W.fI,hw]
 have aP:av .i64 ((j:Int)+1)=(j:Int)+1:=wrap_i64 ae;have hk1:((j+1:Nat):Int)=(j:Int)+1:=ae;have hk0:(0:Int)<=(j:Int):=ae;generalize dV k w=vv at*;clear hs ok hw hk;obtain⟨sx,ax,bx,cx,ix,ux,px,DW⟩:=w;simp only[W.d,PD,LD]at*;generalize LL ax=x1,LL bx=x2,List.map Mo.d px=x5,W.ds DW=x7 at*;refine Ex.of (n:=N+90) ?_;unfold VT wcF;rw[hk1];generalize W.ds ws=es2 at*;have i1:=idx e1;have i2:=idx e2;cases vv
 ·simp[wcB,f29,hj,hj2,hk0,e1,e2,i1,i2,n1',Kk,t1]
 ·simp[wcB,f29,hj,hj2,hk0,e1,e2,i1,i2,n1',Kk,t1,aP]
theorem Xp (k0:Int)(p1 p2 p3 p4 p5 p6 p7:D)(ws:List W)(ks:List Int)(hl:ks.length<=1000000)(he:ws.length=ks.length)(hs:ks.all single=true)(ok:∀ w ∈ ws,w.OK) :
  ∃ r,Ex E0 (.loop wcB) (VT k0 ks [.d p1,.d p2,.d p3,.d p4,.d p5,.d p6,.d p7,.d (.s 8 (W.ds ws))] 0 .u) r /\
   ((qE ks ws=true/\r=(.exit 0,VT k0 ks [.d p1,.d p2,.d p3,.d p4,.d p5,.d p6,.d p7,.d (.s 8 (W.ds ws))] ks.length (dB false))) \/
    (qE ks ws=false/\r=(.ret,wcF k0 ks [.d p1,.d p2,.d p3,.d p4,.d p5,.d p6,.d p7,.d (.s 8 (W.ds ws))]))):=by
 refine Ex.inv (S:=fun j:Nat=>VT k0 ks [.d p1,.d p2,.d p3,.d p4,.d p5,.d p6,.d p7,.d (.s 8 (W.ds ws))] j .u) (fun j=>ks.length-j) (fun j=>j<=ks.length/\qE ks ws=qE (ks.drop j) (ws.drop j)) _ ?_ 0 ⟨aC,aC⟩;rintro j ⟨q1,q2⟩
 by_cases hj:j<ks.length
 ·have hk:ks[j]?=some (ks[j]'hj):=Qa1 hj;have hw:ws[j]?=some (ws[j]'(by omega)):=Qa1 ae;have d1:ks.drop j=ks[j]'hj::ks.drop (j+1):=Qi2 hj;have d2:ws.drop j=ws[j]'(by omega)::ws.drop (j+1):=Qi2 ae;have hr:=RP k0 p1 p2 p3 p4 p5 p6 p7 ws ks j _ _ hl hk hw (Qf0.1 hs _ (Qj1 hj)) (ok _ (Qj1 ae));rw[d1,d2]at q2;simp only[qE]at q2;cases hv:dV (ks[j]'hj) (ws[j]'(by omega))
  ·rw[hv]at hr q2;exact .inr ⟨_,hr,aC,.inr ⟨by simpa using q2,rfl⟩⟩
  ·rw[hv]at hr q2;exact .inl ⟨j+1,hr,ae,ae,by simpa using q2⟩
 ·have dw:j=ks.length:=ae;subst dw;have n1':(LK .i64 ks).length=ks.length:=by simp[LK]
  rw[Qp2]at q2;refine .inr ⟨_,Ex.of (n:=60) ?_,?_,.inl ⟨by rw[q2];rfl,rfl⟩⟩
  ·unfold VT;generalize W.ds ws=l2,ks.length=m at*;simp[wcB,f29,n1']
  ·simp
theorem Kw (ps:List Int)(w:W)(hl:ps.length<=1000000)(hw:w.OK)(vG:aR 6 ps=true)(hv:∀ n,CL E0 (n+500) 28 [.d (bD 6 ps)] []=some (dB true,none)) :
  Ca E0 29 [.d (bD 6 ps),.d w.d] (dB ((w.ps.length==ps.length)&&w.bare&&qE ps w.ps),none):=by
 have hs:ps.all single=true:=by
  unfold aR at vG;rw[if_neg aC]at vG;simp only[Qa2]at vG;exact vG.2
 have ok:=hw;cases hw with
 | @mk s a b c i u p ws ha hb la lb hp lp hok =>
  simp only[W.ps];have n1:(LK .i64 ps).length=ps.length:=by simp[LK]
  have n2:(W.ds ws).length=ws.length:=by simp[W.fI]
  obtain⟨N,t⟩:=(rZ _ (.mk (s:=false) (a:=[]) (b:=[]) (c:=0) (i:=false) (u:=0) (p:=[]) kr kr aC aC AA lp hok) _ ok).any;rw[RN]at t;generalize hbare:W.bare (.mk s a b c i u p ws)=bare at*
  by_cases hlen:ws.length=ps.length
  ·have hl1:(ws.length==ps.length)=true:=by simpa using hlen
   have hne:((ws.length:Int) != (ps.length:Int))=false:=by simp;omega
   rw[hl1,Ql0];have hA:Ex E0 f29.body.l (st0 (.d (bD 6 ps)::.d (W.mk s a b c i u p ws).d::CK) [])
     (.norm,(st0 (.u::.u::rL 0::rL 1::nO) [.box [dI 6,.d (.s 1 (LK .i64 ps))],.box [dB s,.d (LD a),.d (LD b),dI c,dB i,.d (.v (.int .u64 u)),.d (PD p),.d (.s 8 (W.ds ws))]])):=by
    refine Ex.of (n:=40) ?_;simp only[W.d,PD,LD,bD];generalize LL a=x1;generalize LL b=x2;generalize List.map Mo.d p=x5;generalize W.ds ws=x7;generalize LK .i64 ps=l1;simp[f29]
   have hB:Ex E0 f29.body.r.l (st0 (.u::.u::rL 0::rL 1::nO) [.box [dI 6,.d (.s 1 (LK .i64 ps))],.box [dB s,.d (LD a),.d (LD b),dI c,dB i,.d (.v (.int .u64 u)),.d (PD p),.d (.s 8 (W.ds ws))]])
     (.norm,(st0 [.u,.u,rL 0,rL 1,.u,.u,dB false,.u,.u,.u,.u] [.box [dI 6,.d (.s 1 (LK .i64 ps))],.box [dB s,.d (LD a),.d (LD b),dI c,dB i,.d (.v (.int .u64 u)),.d (PD p),.d (.s 8 (W.ds ws))]])):=by
    refine Ex.of (n:=600) ?_;simp only[PD,LD,bD]at hv ⊢;generalize LL a=x1;generalize LL b=x2;generalize List.map Mo.d p=x5;generalize W.ds ws=x7;generalize LK .i64 ps=l1 at hv ⊢;simp[f29,hv]
   have hC:Ex E0 f29.body.r.r.l (st0 [.u,.u,rL 0,rL 1,.u,.u,dB false,.u,.u,.u,.u] [.box [dI 6,.d (.s 1 (LK .i64 ps))],.box [dB s,.d (LD a),.d (LD b),dI c,dB i,.d (.v (.int .u64 u)),.d (PD p),.d (.s 8 (W.ds ws))]])
     (.norm,(st0 [.u,.u,rL 0,rL 1,.u,.u,.u,dB false,.u,.u,.u] [.box [dI 6,.d (.s 1 (LK .i64 ps))],.box [dB s,.d (LD a),.d (LD b),dI c,dB i,.d (.v (.int .u64 u)),.d (PD p),.d (.s 8 (W.ds ws))]])):=by
    apply e6;simp only[PD,LD];generalize LL a=x1;generalize LL b=x2;generalize List.map Mo.d p=x5;generalize W.ds ws=x7;generalize LK .i64 ps=l1;simp[f29]
   cases hbb:bare
   ·rw[hbb]at t;rw[Qs1];replace t:=t N ae;refine Ca.body (o:=.ret) (st1:=(st0 (.u::.u::.u::.u::dB false::qm) [.box [dI 6,.d (.s 1 (LK .i64 ps))],.box [dB s,.d (LD a),.d (LD b),dI c,dB i,.d (.v (.int .u64 u)),.d (PD p),.d (.s 8 (W.ds ws))]])) rfl (k29:E0.fn _=_) rfl ?_ (by intro id h;cases h) ?_
    ·show Ex E0 (.seq f29.body.l (.seq f29.body.r.l (.seq f29.body.r.r.l f29.body.r.r.r))) _ _;refine hA.seq (hB.seq (hC.seq (Ex.of (n:=N+90) ?_)));simp only[W.d,PD,LD,W.ds]at t ⊢;generalize LL a=x1 at t ⊢;generalize LL b=x2 at t ⊢;simp only[LL,Qc2]at t;generalize List.map Mo.d p=x5 at t ⊢;generalize W.ds ws=x7 at t n2 ⊢;generalize LK .i64 ps=l1 at n1 ⊢;simp[f29,t,n1,n2,hne]
    ·simp[f29]
   ·rw[hbb]at t;rw[Ql0];obtain⟨r,hr,hq⟩:=Xp 6 (vB s) (LD a) (LD b) (vI c) (vB i) (.v (.int .u64 u)) (PD p) ws ps hl hlen hs hok;replace t:=t N ae;have hD:Ex E0 f29.body.r.r.r.l (st0 [.u,.u,rL 0,rL 1,.u,.u,.u,dB false,.u,.u,.u] [.box [dI 6,.d (.s 1 (LK .i64 ps))],.box [dB s,.d (LD a),.d (LD b),dI c,dB i,.d (.v (.int .u64 u)),.d (PD p),.d (.s 8 (W.ds ws))]])
      (.norm,(st0 [.u,.u,rL 0,rL 1,.u,.u,.u,.u,dB false,.u,.u] [.box [dI 6,.d (.s 1 (LK .i64 ps))],.box [dB s,.d (LD a),.d (LD b),dI c,dB i,.d (.v (.int .u64 u)),.d (PD p),.d (.s 8 (W.ds ws))]])):=by
     refine Ex.of (n:=N+90) ?_;simp only[W.d,PD,LD,W.ds]at t ⊢;generalize LL a=x1 at t ⊢;generalize LL b=x2 at t ⊢;simp only[LL,Qc2]at t;generalize List.map Mo.d p=x5 at t ⊢;generalize W.ds ws=x7 at t n2 ⊢;generalize LK .i64 ps=l1 at n1 ⊢;simp[f29,t,n1,n2,hne]
    have hE:Ex E0 f29.body.r.r.r.r.l.l (st0 [.u,.u,rL 0,rL 1,.u,.u,.u,.u,dB false,.u,.u] [.box [dI 6,.d (.s 1 (LK .i64 ps))],.box [dB s,.d (LD a),.d (LD b),dI c,dB i,.d (.v (.int .u64 u)),.d (PD p),.d (.s 8 (W.ds ws))]])
      (.norm,VT 6 ps [dB s,.d (LD a),.d (LD b),dI c,dB i,.d (.v (.int .u64 u)),.d (PD p),.d (.s 8 (W.ds ws))] 0 .u):=by
     apply e6;unfold VT;simp only[PD,LD];generalize LL a=x1;generalize LL b=x2;generalize List.map Mo.d p=x5;generalize W.ds ws=x7;generalize LK .i64 ps=l1;simp[f29]
    rcases hq with ⟨hall,rfl⟩|⟨hall,rfl⟩
    ·rw[hall];refine Ca.body (o:=.ret) (st1:=(st0 (.u::.u::.u::.u::dB true::qm) [.box [dI 6,.d (.s 1 (LK .i64 ps))],.box [dB s,.d (LD a),.d (LD b),dI c,dB i,.d (.v (.int .u64 u)),.d (PD p),.d (.s 8 (W.ds ws))]])) rfl (k29:E0.fn _=_) rfl ?_ (by intro id h;cases h) ?_
     ·show Ex E0 (.seq f29.body.l (.seq f29.body.r.l (.seq f29.body.r.r.l (.seq f29.body.r.r.r.l (.seq (.seq f29.body.r.r.r.r.l.l (.block 0 (.loop wcB))) f29.body.r.r.r.r.r))))) _ _;refine hA.seq (hB.seq (hC.seq (hD.seq ((hE.seq hr.block).seq (Ex.of (n:=40) ?_)))));unfold VT;generalize LK .i64 ps=l1;simp[f29]
     ·simp[f29]
    ·rw[hall];refine Ca.body (o:=.ret) (st1:=wcF 6 ps [dB s,.d (LD a),.d (LD b),dI c,dB i,.d (.v (.int .u64 u)),.d (PD p),.d (.s 8 (W.ds ws))]) rfl (k29:E0.fn _=_) rfl ?_ (by intro id h;cases h) ?_
     ·show Ex E0 (.seq f29.body.l (.seq f29.body.r.l (.seq f29.body.r.r.l (.seq f29.body.r.r.r.l (.seq (.seq f29.body.r.r.r.r.l.l (.block 0 (.loop wcB))) f29.body.r.r.r.r.r))))) _ _;exact hA.seq (hB.seq (hC.seq (hD.seq (hE.seq hr.bG).bN)))
     ·simp[f29,wcF]
  ·have hl1:(ws.length==ps.length)=false:=by simpa using hlen
   have hne:((ws.length:Int) != (ps.length:Int))=true:=by simp;omega
   rw[hl1,Qs1,Qs1];refine Ca.bO (n:=700) ?_;rw[aB rfl (k29:E0.fn _=_) rfl];clear t hok ok;simp only[W.d,PD,LD,bD]at*;generalize LL a=x1,LL b=x2,List.map Mo.d p=x5,W.ds ws=x7 at*;simp[f29,hv,n1,n2,hne]
theorem r9 (k:Int)(ps:List Int)(w:W)(hl:ps.length<=1000000)(hw:w.OK):Ca E0 29 [.d (bD k ps),.d w.d] (dB (bU k ps w),none):=by
 have hv:=fun n=>iY n k ps
 unfold bU;cases vG:aR k ps
 ·rw[vG]at hv;rw[Qs1];refine Ca.bO (n:=600) ?_;rw[aB rfl (k29:E0.fn _=_) rfl];obtain⟨sx,ax,bx,cx,ix,ux,px,DW⟩:=w;simp only[W.d,PD,LD,bD]at*;generalize LL ax=x1,LL bx=x2,List.map Mo.d px=x5,W.ds DW=x7,LK .i64 ps=l1 at*;simp[f29,hv]
 ·rw[vG]at hv;rw[Ql0]
  by_cases hk:k=6
  ·subst hk;rw[if_neg aC];exact Kw ps w hl hw vG hv
  ·rw[if_pos hk];have hne:(k != 6)=true:=by simpa using hk
   have hs:single k=true:=by
    unfold aR at vG;rw[if_pos hk]at vG;simp only[Qa2]at vG;exact vG.1
   obtain⟨n1,t1⟩:=(DY k hs w hw).any;replace t1:=t1 (n1+600) ae;have hv':∀ m,CL E0 (n1+600+m) 28 [.d (bD k ps)] []=some (dB true,none):=fun m=>by
    have:=hv (n1+100+m)
    rwa [show n1+100+m+500=n1+600+m by omega]at this
   clear hv;generalize dV k w=vv,n1+600=N at*;clear vG hw;refine Ca.bO (n:=N+90) ?_;rw[aB rfl (k29:E0.fn _=_) rfl];obtain⟨sx,ax,bx,cx,ix,ux,px,DW⟩:=w;simp only[W.d,PD,LD,bD]at*;generalize LL ax=x1,LL bx=x2,List.map Mo.d px=x5,W.ds DW=x7 at*;simp[f29,hv',t1,hne]
end Fi.S
