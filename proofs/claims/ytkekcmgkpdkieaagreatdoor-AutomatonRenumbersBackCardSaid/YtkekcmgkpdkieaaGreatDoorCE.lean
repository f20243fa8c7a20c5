import Derived.Test.YtkekcmgkpdkieaaGreatDoorCD
set_option linter.unusedVariables false
set_option linter.unusedSimpArgs false
noncomputable section
namespace Fi.S
open Go Fi
set_option maxHeartbeats 8000000
set_option maxRecDepth 4000
def bA (k:Int)(ps:List Int):D:=.a [.v (.int .i64 k),.s 1 (LK .i64 ps)]
def single (k:Int):Bool:=decide (1<=k)&&decide (k<=5)
def aJ (k:Int)(ps:List Int):Bool:=if k≠6 then single k&&decide (ps=[]) else decide (2<=ps.length)&&decide (ps.length<=3)&&ps.all single
theorem BL (n:Nat)(k:Int):CL E0 (n+30) 67 [.d (.v (.int .i64 k))] []=some (.d (.v (.bool (single k))),none):=by
 rw[av rfl (k67:E0.fn _=_) rfl];unfold single
 by_cases h:1<=k
 ·by_cases h2:k<=5
  ·simp -implicitDefEqProofs[f67,h,h2]
  ·simp -implicitDefEqProofs[f67,h,h2]
 ·simp -implicitDefEqProofs[f67,h]
theorem jc (n:Nat)(k:Int):CL E0 (n+60) 69 [.d (.v (.int .i64 k))] []=some (.d (.v (.bool (!single k))),none):=by
 have h:=fun m=>BL m k
 rw[av rfl (k69:E0.fn _=_) rfl];generalize single k=b at*;simp -implicitDefEqProofs[f69,h]
theorem Eo (n:Nat)(x y:Int):CL E0 (n+300) 68 [.d (.s 1 (LK .i64 [x,y])),.d (.fn 69)] []=some (.d (.v (.bool (!(single x&&single y)))),none):=by
 have h1:=fun m=>jc m x
 have h2:=fun m=>jc m y
 have w1:ah .i64 1=1:=wrap_i64 omK;have w2:ah .i64 2=2:=wrap_i64 omK;have hi:∃ v:Int,(decide (0<=v) = !(single x&&single y))/\∀ m,CL E0 (m+200) 100 [.d (.s 1 (LK .i64 [x,y])),.d (.fn 69)] []=some (.d (.v (.int .i64 v)),none):=by
  cases hx:single x
  ·refine⟨0,rfl,fun m => ?_⟩;rw[hx]at h1;rw[av rfl (k100:E0.fn _=_) rfl];simp only[LK,Qd2,Qc0];simp -implicitDefEqProofs[f100,aC,h1]
  ·cases hy:single y
   ·refine⟨1,rfl,fun m => ?_⟩;rw[hx]at h1;rw[hy]at h2;rw[av rfl (k100:E0.fn _=_) rfl];simp only[LK,Qd2,Qc0];simp -implicitDefEqProofs[f100,aC,w1,h1,h2]
   ·refine⟨-1,rfl,fun m => ?_⟩;rw[hx]at h1;rw[hy]at h2;rw[av rfl (k100:E0.fn _=_) rfl];simp only[LK,Qd2,Qc0];simp -implicitDefEqProofs[f100,aC,w1,w2,h1,h2]
 obtain⟨v,hv,hi⟩:=hi;rw[av rfl (k68:E0.fn _=_) rfl];rw[<-hv];generalize LK .i64 [x,y]=l at*;simp -implicitDefEqProofs[f68,hi]
theorem Ep (n:Nat)(x y z:Int):CL E0 (n+300) 68 [.d (.s 1 (LK .i64 [x,y,z])),.d (.fn 69)] []=some (.d (.v (.bool (!(single x&&(single y&&single z))))),none):=by
 have h1:=fun m=>jc m x
 have h2:=fun m=>jc m y
 have h3:=fun m=>jc m z
 have w1:ah .i64 1=1:=wrap_i64 omK;have w2:ah .i64 2=2:=wrap_i64 omK;have w3:ah .i64 3=3:=wrap_i64 omK;have hi:∃ v:Int,(decide (0<=v) = !(single x&&(single y&&single z)))/\∀ m,CL E0 (m+200) 100 [.d (.s 1 (LK .i64 [x,y,z])),.d (.fn 69)] []=some (.d (.v (.int .i64 v)),none):=by
  cases hx:single x
  ·refine⟨0,rfl,fun m => ?_⟩;rw[hx]at h1;rw[av rfl (k100:E0.fn _=_) rfl];simp only[LK,Qd2,Qc0];simp -implicitDefEqProofs[f100,aC,h1]
  ·cases hy:single y
   ·refine⟨1,rfl,fun m => ?_⟩;rw[hx]at h1;rw[hy]at h2;rw[av rfl (k100:E0.fn _=_) rfl];simp only[LK,Qd2,Qc0];simp -implicitDefEqProofs[f100,aC,w1,h1,h2]
   ·cases hz:single z
    ·refine⟨2,rfl,fun m => ?_⟩;rw[hx]at h1;rw[hy]at h2;rw[hz]at h3;rw[av rfl (k100:E0.fn _=_) rfl];simp only[LK,Qd2,Qc0];simp -implicitDefEqProofs[f100,aC,w1,w2,h1,h2,h3]
    ·refine⟨-1,rfl,fun m => ?_⟩;rw[hx]at h1;rw[hy]at h2;rw[hz]at h3;rw[av rfl (k100:E0.fn _=_) rfl];simp only[LK,Qd2,Qc0];simp -implicitDefEqProofs[f100,aC,w1,w2,w3,h1,h2,h3]
 obtain⟨v,hv,hi⟩:=hi;rw[av rfl (k68:E0.fn _=_) rfl];rw[<-hv];generalize LK .i64 [x,y,z]=l at*;simp -implicitDefEqProofs[f68,hi]
theorem o8 (n:Nat)(k:Int)(ps:List Int):CL E0 (n+500) 31 [.d (bA k ps)] []=some (.d (.v (.bool (aJ k ps))),none):=by
 have hs:=fun m=>BL m k
 rw[av rfl (k31:E0.fn _=_) rfl];unfold aJ bA
 by_cases hk:k=6
 ·subst hk;rw[if_neg (by simp)]
  match ps with
  | []=>simp -implicitDefEqProofs[f31,LK]
  | [x]=>simp -implicitDefEqProofs[f31,LK]
  | [x,y] =>
   have h:=fun m=>Eo m x y
   simp only[LK,Qd2,Qc0]at h;simp -implicitDefEqProofs[f31,LK,h]
  | [x,y,z] =>
   have h:=fun m=>Ep m x y z
   simp only[LK,Qd2,Qc0]at h;simp -implicitDefEqProofs[f31,LK,h]
  | x::y::z::w::r =>
   have h2:(2:Int)<=(r.length:Int)+1+1+1+1:=by omega
   have h3:¬ (r.length:Int)+1+1+1+1<=3:=by omega
   simp -implicitDefEqProofs[f31,LK,h2,h3]
 ·rw[if_pos hk];have hne:(k != 6)=true:=by simpa using hk
  cases hb:single k
  ·rw[hb]at hs;generalize LK .i64 ps=l at*;simp -implicitDefEqProofs[f31,hne,hs]
  ·rw[hb]at hs;cases ps with
   | nil=>simp -implicitDefEqProofs[f31,LK,hne,hs]
   | cons x r =>
    have h0:(((r.length:Int)+1)==0)=false:=by simp;omega
    simp -implicitDefEqProofs[f31,LK,hne,hs,h0]
theorem jG (x:Int):(single x=true/\¬ x<1/\¬ 5<x)\/(single x=false/\x<1)\/(single x=false/\¬ x<1/\5<x):=by
 unfold single
 by_cases h1:x<1
 ·have:¬ 1<=x:=by omega
  simp[this,h1]
 ·by_cases h2:5<x
  ·have:¬ x<=5:=by omega
   simp[this,h1,h2]
  ·have a1:1<=x:=by omega
   have a2:x<=5:=by omega
   simp[a1,a2]
theorem fO (n:Nat)(k:Int)(ps:List Int):CL E0 (n+500) 28 [.d (bA k ps)] []=some (.d (.v (.bool (aJ k ps))),none):=by
 rw[av rfl (k28:E0.fn _=_) rfl];have w1:ah .i64 1=1:=wrap_i64 omK;have w2:ah .i64 2=2:=wrap_i64 omK;have w3:ah .i64 3=3:=wrap_i64 omK;unfold aJ bA
 by_cases hk:k=6
 ·subst hk;rw[if_neg (by simp)]
  match ps with
  | []=>simp -implicitDefEqProofs[f28,LK]
  | [x]=>simp -implicitDefEqProofs[f28,LK]
  | [x,y] =>
   rcases jG x with ⟨a,a1,a2⟩|⟨a,a1⟩|⟨a,a1,a2⟩
   ·rcases jG y with ⟨b,b1,b2⟩|⟨b,b1⟩|⟨b,b1,b2⟩
    ·simp -implicitDefEqProofs[f28,aC,LK,w1,w2,a,a1,a2,b,b1,b2]
    ·simp -implicitDefEqProofs[f28,aC,LK,w1,a,a1,a2,b,b1]
    ·simp -implicitDefEqProofs[f28,aC,LK,w1,a,a1,a2,b,b1,b2]
   ·simp -implicitDefEqProofs[f28,aC,LK,a,a1]
   ·simp -implicitDefEqProofs[f28,aC,LK,a,a1,a2]
  | [x,y,z] =>
   rcases jG x with ⟨a,a1,a2⟩|⟨a,a1⟩|⟨a,a1,a2⟩
   ·rcases jG y with ⟨b,b1,b2⟩|⟨b,b1⟩|⟨b,b1,b2⟩
    ·rcases jG z with ⟨c,c1,c2⟩|⟨c,c1⟩|⟨c,c1,c2⟩
     ·simp -implicitDefEqProofs[f28,aC,LK,w1,w2,w3,a,a1,a2,b,b1,b2,c,c1,c2]
     ·simp -implicitDefEqProofs[f28,aC,LK,w1,w2,a,a1,a2,b,b1,b2,c,c1]
     ·simp -implicitDefEqProofs[f28,aC,LK,w1,w2,a,a1,a2,b,b1,b2,c,c1,c2]
    ·simp -implicitDefEqProofs[f28,aC,LK,w1,a,a1,a2,b,b1]
    ·simp -implicitDefEqProofs[f28,aC,LK,w1,a,a1,a2,b,b1,b2]
   ·simp -implicitDefEqProofs[f28,aC,LK,a,a1]
   ·simp -implicitDefEqProofs[f28,aC,LK,a,a1,a2]
  | x::y::z::w::r =>
   have h2:¬ (r.length:Int)+1+1+1+1<2:=by omega
   have h3:(3:Int)<(r.length:Int)+1+1+1+1:=by omega
   simp -implicitDefEqProofs[f28,LK,h2,h3]
 ·rw[if_pos hk];have hne:(k != 6)=true:=by simpa using hk
  unfold single
  by_cases b1:1<=k
  ·by_cases b2:k<=5
   ·cases ps with
    | nil=>simp -implicitDefEqProofs[f28,LK,hne,b1,b2]
    | cons x r =>
     have h0:(((r.length:Int)+1)==0)=false:=by simp;omega
     simp -implicitDefEqProofs[f28,LK,hne,b1,b2,h0]
   ·generalize LK .i64 ps=l at*;simp -implicitDefEqProofs[f28,hne,b1,b2]
  ·generalize LK .i64 ps=l at*;simp -implicitDefEqProofs[f28,hne,b1]
def yF (k:Int)(ps:List Int)(k':Int)(ps':List Int):Bool:=k==k'&&decide (ps=ps')
theorem TW (k k':Int)(ps ps':List Int)(h1:ps.length<=1000000000)(h2:ps'.length<=1000000000):Ca E0 32 [.d (bA k ps),.d (bA k' ps')] (.d (.v (.bool (yF k ps k' ps'))),none):=by
 obtain⟨N,t⟩:=(I6 .i64 ps ps' h1 h2).get;refine Ca.bO (n:=N+60) ?_;rw[av rfl (k32:E0.fn _=_) rfl];unfold yF bA;generalize decide (ps=ps')=r,LK .i64 ps=l1 at*;generalize LK .i64 ps'=l2 at*;cases h:(k==k')
 ·simp -implicitDefEqProofs[f32,h]
 ·simp -implicitDefEqProofs[f32,h,t]
def q0 (s:Bool)(a b:List Nat):Bool := !s&&decide (a=[])&&decide (b=[])
def fI (k:Int):W->Bool
 | .mk s a b c i u p ps =>
  if k=1 then dP s a b&&((c==0) && !i&&(u==0)&&p.isEmpty&&ps.isEmpty)
  else if k=2 then(decide (0<=c)&&decide (c<=1099511627776)&&(!i||(c==0)))&&(q0 s a b&&(u==0)&&p.isEmpty&&ps.isEmpty)
  else if k=3 then(dP s a b&&((c==0) && !i&&(u==0)&&p.isEmpty&&ps.isEmpty))&&decide (0<=(bZ s a b).num.sign) && !decide ((1:Rat)<bZ s a b)
  else if k=4 then q0 s a b&&(c==0) && !i&&p.isEmpty&&ps.isEmpty
  else zA none p&&(q0 s a b&&(c==0) && !i&&(u==0)&&ps.isEmpty)
theorem AL {α:Type}(eq:α->α->Bool)(l:List α):iT eq l []=l.isEmpty:=by cases l<;>rfl
theorem AO (l:List W):W.eqs l []=l.isEmpty:=by cases l<;>rfl
theorem BM {α:Type}{eq:α->α->Bool}(h:∀ x,eq x x=true):∀ l:List α,iT eq l l=true
 | []=>rfl
 | x::r=>by simp[iT,h x,BM h r]
theorem ET (m:Mo):m.eq m=true:=by simp[Mo.eq]
theorem wL (s:Bool)(a b:List Nat):(s==false&&decide (a=[])&&decide (b=[]))=q0 s a b:=by cases s<;>rfl
theorem AP (s:Bool)(a b:List Nat)(c:Int)(i:Bool)(u:Int)(p:List Mo)(ha:bV a)(hb:bV b)(la:a.length<=1000)(lb:b.length<=1000)(hp:Po p):(W.mk s a b c i u p []).OK :=
 .mk ha hb la lb hp (by simp) (fun w hw=>by cases hw)
theorem kM:bV []:=fun x hx=>by cases hx
theorem BN:Po []:=⟨(fun m hm=>by cases hm),by simp⟩
theorem Og (w:W)(hw:w.OK):Ca E0 108 [.d w.d] (.d (.v (.bool (fI 1 w))),none):=by
 cases hw with
 | @mk s a b c i u p ps ha hb la lb hp lp h =>
  obtain⟨Kq,_,t1,t2⟩:=((yA s a b omK omK ha hb).j ((jF _ (.mk (c:=c) (i:=i) (u:=u) (s:=s) ha hb la lb hp lp h) _ (AP s a b 0 false 0 [] ha hb la lb BN)).any)).at 0;generalize Kq=N at*;have e:W.eq (.mk s a b c i u p ps) (.mk s a b 0 false 0 [] [])=((c==0) && !i&&(u==0)&&p.isEmpty&&ps.isEmpty):=by
   simp only[W.eq,AL,AO];cases i<;>simp
  rw[e]at t2;refine Ca.bO (n:=N+90) ?_;rw[av rfl (k108:E0.fn _=_) rfl];rw[fI];rw[if_pos rfl];generalize ((c==0) && !i&&(u==0)&&p.isEmpty&&ps.isEmpty)=r2,dP s a b=r1 at*;simp only[W.d,W.ds,PD,raw,LD]at*;generalize LL a=x1,LL b=x2,W.ds ps=x4 at*;simp only[Qc0]at*;generalize List.map Mo.d p=x3 at*;cases r1
  ·simp -implicitDefEqProofs[f108,t1]
  ·simp -implicitDefEqProofs[f108,t1,t2]
theorem Yx (w:W)(hw:w.OK):Ca E0 122 [.d w.d] (.d (.v (.bool (fI 2 w))),none):=by
 cases hw with
 | @mk s a b c i u p ps ha hb la lb hp lp h =>
  obtain⟨N,t2⟩:=(jF _ (.mk (c:=c) (i:=i) (u:=u) (s:=s) ha hb la lb hp lp h) _ (AP false [] [] c i 0 [] kM kM (by simp) (by simp) BN)).get;have e:W.eq (.mk s a b c i u p ps) (.mk false [] [] c i 0 [] [])=(q0 s a b&&(u==0)&&p.isEmpty&&ps.isEmpty):=by
   simp only[W.eq,AL,AO,wL];simp
  rw[e]at t2;refine Ca.bO (n:=N+90) ?_;rw[av rfl (k122:E0.fn _=_) rfl];rw[fI];rw[if_neg omK,if_pos rfl];generalize (q0 s a b&&(u==0)&&p.isEmpty&&ps.isEmpty)=r2 at*;simp only[W.d,W.ds,PD,LD]at*;generalize LL a=x1,LL b=x2,W.ds ps=x4 at*;simp only[Qc0,LL]at*;generalize List.map Mo.d p=x3 at*
  by_cases h1:0<=c
  ·by_cases h2:c<=1099511627776
   ·cases i
    ·simp -implicitDefEqProofs[f122,t2,h1,h2]
    ·cases h3:(c==0)
     ·simp -implicitDefEqProofs[f122,t2,h1,h2,h3]
     ·simp -implicitDefEqProofs[f122,t2,h1,h2,h3]
   ·simp -implicitDefEqProofs[f122,h1,h2]
  ·simp -implicitDefEqProofs[f122,h1]
theorem Yy (w:W)(hw:w.OK):Ca E0 139 [.d w.d] (.d (.v (.bool (fI 4 w))),none):=by
 cases hw with
 | @mk s a b c i u p ps ha hb la lb hp lp h =>
  obtain⟨N,t2⟩:=(jF _ (.mk (c:=c) (i:=i) (u:=u) (s:=s) ha hb la lb hp lp h) _ (AP false [] [] 0 false u [] kM kM (by simp) (by simp) BN)).get;have e:W.eq (.mk s a b c i u p ps) (.mk false [] [] 0 false u [] [])=(q0 s a b&&(c==0) && !i&&p.isEmpty&&ps.isEmpty):=by
   simp only[W.eq,AL,AO,wL];cases i<;>simp
  rw[e]at t2;refine Ca.bO (n:=N+90) ?_;rw[av rfl (k139:E0.fn _=_) rfl];rw[fI];rw[if_neg omK,if_neg omK,if_neg omK,if_pos rfl];generalize (q0 s a b&&(c==0) && !i&&p.isEmpty&&ps.isEmpty)=r2 at*;simp only[W.d,W.ds,PD,LD]at*;generalize LL a=x1,LL b=x2,W.ds ps=x4 at*;simp only[Qc0,LL]at*;generalize List.map Mo.d p=x3 at*;simp -implicitDefEqProofs[f139,t2]
theorem Yz (w:W)(hw:w.OK):Ca E0 149 [.d w.d] (.d (.v (.bool (fI 5 w))),none):=by
 cases hw with
 | @mk s a b c i u p ps ha hb la lb hp lp h =>
  obtain⟨Kq,_,t1,t2⟩:=((ER p hp).j ((jF _ (.mk (c:=c) (i:=i) (u:=u) (s:=s) ha hb la lb hp lp h) _ (AP false [] [] 0 false 0 p kM kM (by simp) (by simp) hp)).any)).at 0;generalize Kq=N at*;have e:W.eq (.mk s a b c i u p ps) (.mk false [] [] 0 false 0 p [])=(q0 s a b&&(c==0) && !i&&(u==0)&&ps.isEmpty):=by
   simp only[W.eq,BM ET,AO,wL];cases i<;>simp
  rw[e]at t2;refine Ca.bO (n:=N+90) ?_;rw[av rfl (k149:E0.fn _=_) rfl];rw[fI];rw[if_neg omK,if_neg omK,if_neg omK,if_neg omK];generalize (q0 s a b&&(c==0) && !i&&(u==0)&&ps.isEmpty)=r2,zA none p=r1 at*;simp only[W.d,W.ds,PD,LD]at*;generalize LL a=x1,LL b=x2,W.ds ps=x4 at*;simp only[Qc0,LL]at*;generalize List.map Mo.d p=x3 at*;cases r1
  ·simp -implicitDefEqProofs[f149,t1]
  ·simp -implicitDefEqProofs[f149,t1,t2]
def Er:D:=.a [(.fn 108),(.fn 110),(.fn 111),(.fn 113),(.fn 115),(.fn 117),(.fn 118),(.fn 119),(.fn 121)]
theorem ab0 (n:Nat):CL E0 (n+40) 79 [] []=some (.d Er,none):=by
 rw[av rfl (k79:E0.fn _=_) rfl];unfold Er;simp -implicitDefEqProofs[f79]
theorem Gv:qD (1:Rat)=raw false [1] []:=by
 have h1:qs (1:Rat)=false:=by unfold qs;rfl
 have h2:qn (1:Rat)=[1]:=by
  have:(1:Rat).num.natAbs=1:=rfl;unfold qn;rw[this];exact AA.2 rfl
 have h3:qd (1:Rat)=[]:=by
  have:(1:Rat).den=1:=rfl;unfold qd;rw[if_pos this]
 rw[qD,h1,h2,h3]
theorem Oh:rq 1 1=1:=by rw[Tp _ _ omK];simp;grind
def ab1:D:=.a [.v (.bool false),.s 1 [.v (.int .u32 1)],.s 1 [],.v (.int .i64 0),.v (.bool false),.v (.int .u64 0),.s 6 [],.s 8 []]
theorem LW:Ca E0 112 [.d (.v (.int .i64 1))] (.d ab1,none):=by
 obtain⟨N,t⟩:=(Yf 1 1 omK omK omK).get;rw[Oh,Gv]at t;refine Ca.bO (n:=N+80) ?_;rw[av rfl (k112:E0.fn _=_) rfl];unfold ab1;simp only[raw,LD,LL,Qd2,Qc0,Int.natCast_one]at t;simp -implicitDefEqProofs[f112,uC,t]
theorem yG:qz (1:Rat)<=1:=by
 have h1:(1:Rat).num.natAbs=1:=rfl;have h2:(1:Rat).den=1:=rfl;unfold qz;rw[h1,h2,Bt];omega
theorem YA (w:W)(hw:w.OK):Ca E0 133 [.d w.d] (.d (.v (.bool (fI 3 w))),none):=by
 have hc1:=Og w hw;cases hw with
 | @mk s a b c i u p ps ha hb la lb hp lp h =>
  rw[fI,if_pos rfl]at hc1;rw[fI,if_neg omK,if_neg omK,if_pos rfl];have a79:=ab0;obtain⟨n1,t1⟩:=hc1.any;cases hv:dP s a b
  ·rw[hv]at t1;simp only[Q41]at t1 ⊢;replace t1:=t1 n1 omK;refine Ca.bO (n:=n1+90) ?_;rw[av rfl (k133:E0.fn _=_) rfl];simp only[W.d,W.ds,PD,raw,LD,Er]at*;generalize LL a=x1,LL b=x2,W.ds ps=x4,List.map Mo.d p=x3 at*;simp -implicitDefEqProofs[f133,a79,t1]
  ·rw[hv]at t1;simp only[Qs0]at t1 ⊢;have hq:=tY ha hb hv;have hz:=wJ ha hb 1000 la lb omK hv;obtain⟨n2,t2⟩:=(wF (bZ s a b) omK).any;obtain⟨n3,t3⟩:=(zz (bZ s a b) 1 omK (by have:=yG;omega)).any;obtain⟨n4,t4⟩:=LW.any;rw[Gv]at t3;rw[<-hq]at t2 t3;have e3:(!decide ((1:Rat)<bZ s a b))=decide ((bZ s a b-1).num.sign<=0):=by
    have:=(I9 (bZ s a b) 1).2;rw[<-decide_not]
    congr 1
    rw[<-this];simp only[Int.not_lt]
   rw[e3];clear e3 hq hz;generalize (bZ s a b-1).num.sign=g2,(bZ s a b).num.sign=g1,((c==0) && !i&&(u==0)&&p.isEmpty&&ps.isEmpty)=r2 at*;replace t1:=t1 (n1+n2+n3+n4) omK;replace t2:=t2 (n1+n2+n3+n4) omK;replace t3:=t3 (n1+n2+n3+n4) omK;replace t4:=t4 (n1+n2+n3+n4) omK;generalize n1+n2+n3+n4=N at*;refine Ca.bO (n:=N+90) ?_;rw[av rfl (k133:E0.fn _=_) rfl];simp only[W.d,W.ds,PD,raw,LD,Er,ab1]at*;simp only[LL,Qd2,Qc0,Int.natCast_one]at t3;simp only[<-show ∀ l:List Nat,LL l=List.map (fun(x:Nat)=>D.v (Value.int IntKind.u32 (x:Int))) l from fun _=>rfl]at t3;generalize LL a=x1,LL b=x2,W.ds ps=x4,List.map Mo.d p=x3 at*;cases r2
   ·simp -implicitDefEqProofs[f133,a79,t1]
   ·by_cases h1:0<=g1
    ·by_cases h2:g2<=0
     ·simp -implicitDefEqProofs[f133,a79,t1,t2,t3,t4,h1,h2]
     ·simp -implicitDefEqProofs[f133,a79,t1,t2,t3,t4,h1,h2]
    ·simp -implicitDefEqProofs[f133,a79,t1,t2,h1]
theorem nX (ps:List W):(ps.isEmpty=true/\(W.ds ps).length=0)\/(ps.isEmpty=false/\∃ m,(W.ds ps).length=m+1):=by
 cases ps with
 | nil=>exact .inl ⟨rfl,rfl⟩
 | cons x r=>exact .inr ⟨rfl,(W.ds r).length,by simp[W.ds]⟩
theorem rA (p:List Mo):(p.isEmpty=true/\(p.map Mo.d).length=0)\/(p.isEmpty=false/\∃ m,(p.map Mo.d).length=m+1):=by
 cases p with
 | nil=>exact .inl ⟨rfl,rfl⟩
 | cons x r=>exact .inr ⟨rfl,r.length,by simp⟩
theorem LX (w:W)(hw:w.OK):Ca E0 66 [.d (.v (.int .i64 1)),.d w.d] (.d (.v (.bool (fI 1 w))),none):=by
 cases hw with
 | @mk s a b c i u p ps ha hb la lb hp lp h =>
  have hps:=nX ps;have hpo:=rA p;obtain⟨n1,t1⟩:=(mK s false a b [] [] omK omK (by simp) (by simp)).any;rw[wL]at t1;rw[fI,if_pos rfl];obtain⟨n2,t2⟩:=(tX s a b omK omK ha hb).any;replace t1:=t1 (n1+n2) omK;replace t2:=t2 (n1+n2) omK;generalize n1+n2=N at*;refine Ca.bO (n:=N+90) ?_;rw[av rfl (k66:E0.fn _=_) rfl];generalize dP s a b=r2,q0 s a b=nn at*;simp only[W.d,PD,raw,LD]at*;generalize LL a=x1,LL b=x2,W.ds ps=x4,List.map Mo.d p=x3,ps.isEmpty=be,p.isEmpty=bp at*;simp only[LL,Qc0]at t1;have e1:(c != 0) = !(c==0):=rfl;have e2:(u != 0) = !(u==0):=rfl;rcases hps with ⟨rfl,hps⟩|⟨rfl,m,hps⟩
  ·skip
   cases i
   ·cases h3:(c==0)
    ·rw[h3]at e1;simp -implicitDefEqProofs[f66,t1,hps,e1]
    ·rw[h3]at e1;cases h4:(u==0)
     ·rw[h4]at e2;simp -implicitDefEqProofs[f66,t1,hps,e1,e2]
     ·rw[h4]at e2;rcases hpo with ⟨rfl,hpo⟩|⟨rfl,m,hpo⟩
      ·skip
       simp -implicitDefEqProofs[f66,t1,hps,e1,e2,hpo,t2]
      ·simp -implicitDefEqProofs[f66,t1,hps,e1,e2,hpo]
   ·simp -implicitDefEqProofs[f66,t1,hps]
  ·simp -implicitDefEqProofs[f66,t1,hps]
theorem LY (w:W)(hw:w.OK):Ca E0 66 [.d (.v (.int .i64 2)),.d w.d] (.d (.v (.bool (fI 2 w))),none):=by
 cases hw with
 | @mk s a b c i u p ps ha hb la lb hp lp h =>
  have hps:=nX ps;have hpo:=rA p;obtain⟨n1,t1⟩:=(mK s false a b [] [] omK omK (by simp) (by simp)).any;rw[wL]at t1;rw[fI,if_neg omK,if_pos rfl];replace t1:=t1 (n1) omK;replace t1:=t1;refine Ca.bO (n:=n1+90) ?_;rw[av rfl (k66:E0.fn _=_) rfl];generalize q0 s a b=nn at*;simp only[W.d,PD,raw,LD]at*;generalize LL a=x1,LL b=x2,W.ds ps=x4,List.map Mo.d p=x3,ps.isEmpty=be,p.isEmpty=bp at*;simp only[LL,Qc0]at t1;have e1:(c != 0) = !(c==0):=rfl;have e2:(u != 0) = !(u==0):=rfl;rcases hps with ⟨rfl,hps⟩|⟨rfl,m,hps⟩
  ·skip
   cases nn
   ·simp -implicitDefEqProofs[f66,t1,hps]
   ·skip
    cases h4:(u==0)
    ·rw[h4]at e2;simp -implicitDefEqProofs[f66,t1,hps,e2]
    ·rw[h4]at e2;rcases hpo with ⟨rfl,hpo⟩|⟨rfl,m,hpo⟩
     ·skip
      by_cases h1:0<=c
      ·by_cases h2:c<=1099511627776
       ·cases i
        ·simp -implicitDefEqProofs[f66,t1,hps,e2,hpo,h1,h2]
        ·cases h3:(c==0)
         ·rw[h3]at e1;simp -implicitDefEqProofs[f66,t1,hps,e2,hpo,h1,h2,e1]
         ·rw[h3]at e1;simp -implicitDefEqProofs[f66,t1,hps,e2,hpo,h1,h2,e1]
       ·simp -implicitDefEqProofs[f66,t1,hps,e2,hpo,h1,h2]
      ·simp -implicitDefEqProofs[f66,t1,hps,e2,hpo,h1]
     ·simp -implicitDefEqProofs[f66,t1,hps,e2,hpo]
  ·simp -implicitDefEqProofs[f66,t1,hps]
theorem LZ (w:W)(hw:w.OK):Ca E0 66 [.d (.v (.int .i64 4)),.d w.d] (.d (.v (.bool (fI 4 w))),none):=by
 cases hw with
 | @mk s a b c i u p ps ha hb la lb hp lp h =>
  have hps:=nX ps;have hpo:=rA p;obtain⟨n1,t1⟩:=(mK s false a b [] [] omK omK (by simp) (by simp)).any;rw[wL]at t1;rw[fI,if_neg omK,if_neg omK,if_neg omK,if_pos rfl];replace t1:=t1 (n1) omK;replace t1:=t1;refine Ca.bO (n:=n1+90) ?_;rw[av rfl (k66:E0.fn _=_) rfl];generalize q0 s a b=nn at*;simp only[W.d,PD,raw,LD]at*;generalize LL a=x1,LL b=x2,W.ds ps=x4,List.map Mo.d p=x3,ps.isEmpty=be,p.isEmpty=bp at*;simp only[LL,Qc0]at t1;have e1:(c != 0) = !(c==0):=rfl;have e2:(u != 0) = !(u==0):=rfl;rcases hps with ⟨rfl,hps⟩|⟨rfl,m,hps⟩
  ·skip
   cases nn
   ·simp -implicitDefEqProofs[f66,t1,hps]
   ·skip
    cases i
    ·cases h3:(c==0)
     ·rw[h3]at e1;simp -implicitDefEqProofs[f66,t1,hps,e1]
     ·rw[h3]at e1;rcases hpo with ⟨rfl,hpo⟩|⟨rfl,m,hpo⟩
      ·skip
       simp -implicitDefEqProofs[f66,t1,hps,e1,hpo]
      ·simp -implicitDefEqProofs[f66,t1,hps,e1,hpo]
    ·simp -implicitDefEqProofs[f66,t1,hps]
  ·simp -implicitDefEqProofs[f66,t1,hps]
theorem L6 (w:W)(hw:w.OK):Ca E0 66 [.d (.v (.int .i64 5)),.d w.d] (.d (.v (.bool (fI 5 w))),none):=by
 cases hw with
 | @mk s a b c i u p ps ha hb la lb hp lp h =>
  have hps:=nX ps;have hpo:=rA p;obtain⟨n1,t1⟩:=(mK s false a b [] [] omK omK (by simp) (by simp)).any;rw[wL]at t1;rw[fI,if_neg omK,if_neg omK,if_neg omK,if_neg omK];obtain⟨n2,t2⟩:=(ES p hp).any;replace t1:=t1 (n1+n2) omK;replace t2:=t2 (n1+n2) omK;generalize n1+n2=N at*;refine Ca.bO (n:=N+90) ?_;rw[av rfl (k66:E0.fn _=_) rfl];generalize zA none p=r2,q0 s a b=nn at*;simp only[W.d,PD,raw,LD]at*;generalize LL a=x1,LL b=x2,W.ds ps=x4,List.map Mo.d p=x3,ps.isEmpty=be,p.isEmpty=bp at*;simp only[LL,Qc0]at t1;have e1:(c != 0) = !(c==0):=rfl;have e2:(u != 0) = !(u==0):=rfl;rcases hps with ⟨rfl,hps⟩|⟨rfl,m,hps⟩
  ·skip
   cases nn
   ·simp -implicitDefEqProofs[f66,t1,hps]
   ·skip
    cases i
    ·cases h3:(c==0)
     ·rw[h3]at e1;simp -implicitDefEqProofs[f66,t1,hps,e1]
     ·rw[h3]at e1;cases h4:(u==0)
      ·rw[h4]at e2;simp -implicitDefEqProofs[f66,t1,hps,e1,e2]
      ·rw[h4]at e2;simp -implicitDefEqProofs[f66,t1,hps,e1,e2,t2]
    ·simp -implicitDefEqProofs[f66,t1,hps]
  ·simp -implicitDefEqProofs[f66,t1,hps]
theorem L8 (w:W)(hw:w.OK):Ca E0 66 [.d (.v (.int .i64 3)),.d w.d] (.d (.v (.bool (fI 3 w))),none):=by
 cases hw with
 | @mk s a b c i u p ps ha hb la lb hp lp h =>
  have hps:=nX ps;have hpo:=rA p;obtain⟨n1,t1⟩:=(mK s false a b [] [] omK omK (by simp) (by simp)).any;rw[wL]at t1;obtain⟨n2,t2⟩:=(tX s a b omK omK ha hb).any;rw[fI,if_neg omK,if_neg omK,if_pos rfl];obtain⟨n3,t3⟩:=(BJ 1 1 omK omK omK).any;rw[Oh,Gv]at t3;have hx:∃ n4,dP s a b=true->(∀ n,n4<=n->∀ k,CL E0 (n+k) 98 [.d (raw s a b)] []=some (.d (.v (.int .i64 (bZ s a b).num.sign)),none)) /\
    (∀ n,n4<=n->∀ k,CL E0 (n+k) 55 [.d (raw false [1] []),.d (raw s a b)] []=some (.d (.v (.bool (decide ((1:Rat)<bZ s a b)))),none)):=by
   cases hv:dP s a b
   ·exact⟨0,fun h=>by cases h⟩
   ·have hq:=tY ha hb hv;have hz:=wJ ha hb 1000 la lb omK hv;obtain⟨m1,s1⟩:=(mI (bZ s a b) omK).any;obtain⟨m2,s2⟩:=(I_ 1 (bZ s a b) (by have:=yG;omega) omK).any;rw[<-hq]at s1 s2;rw[Gv]at s2;exact⟨m1+m2,fun _=>⟨fun n hn k=>s1 n omK k,fun n hn k=>s2 n omK k⟩⟩
  obtain⟨n4,hx⟩:=hx;replace t1:=t1 (n1+n2+n3+n4) omK;replace t2:=t2 (n1+n2+n3+n4) omK;replace t3:=t3 (n1+n2+n3+n4) omK;have hx':dP s a b=true->(∀ k,CL E0 (n1+n2+n3+n4+k) 98 [.d (raw s a b)] []=some (.d (.v (.int .i64 (bZ s a b).num.sign)),none)) /\
    (∀ k,CL E0 (n1+n2+n3+n4+k) 55 [.d (raw false [1] []),.d (raw s a b)] []=some (.d (.v (.bool (decide ((1:Rat)<bZ s a b)))),none)):=fun hv=>⟨(hx hv).1 _ omK,(hx hv).2 _ omK⟩
  clear hx;generalize n1+n2+n3+n4=N at*;refine Ca.bO (n:=N+90) ?_;rw[av rfl (k66:E0.fn _=_) rfl];generalize dP s a b=r2,q0 s a b=nn,(bZ s a b).num.sign=g1 at*;generalize decide ((1:Rat)<bZ s a b)=g2 at*;simp only[W.d,PD,raw,LD]at*;have e11:LL [1]=[D.v (.int .u32 1)]:=rfl;have e12:LL []=[]:=rfl;simp only[e11,e12]at t1 t3 hx';generalize LL a=x1,LL b=x2,W.ds ps=x4,List.map Mo.d p=x3,ps.isEmpty=be,p.isEmpty=bp at*;have e1:(c != 0) = !(c==0):=rfl;have e2:(u != 0) = !(u==0):=rfl;rcases hps with ⟨rfl,hps⟩|⟨rfl,m,hps⟩
  ·cases i
   ·cases h3:(c==0)
    ·rw[h3]at e1;simp -implicitDefEqProofs[f66,t1,hps,e1]
    ·rw[h3]at e1;cases h4:(u==0)
     ·rw[h4]at e2;simp -implicitDefEqProofs[f66,t1,hps,e1,e2]
     ·rw[h4]at e2;rcases hpo with ⟨rfl,hpo⟩|⟨rfl,m,hpo⟩
      ·cases r2
       ·simp -implicitDefEqProofs[f66,t1,hps,e1,e2,hpo,t2]
       ·obtain⟨hx1,hx2⟩:=hx' rfl
        by_cases hg:0<=g1
        ·cases g2
         ·simp -implicitDefEqProofs[f66,t1,hps,e1,e2,hpo,t2,t3,hx1,hx2,hg]
         ·simp -implicitDefEqProofs[f66,t1,hps,e1,e2,hpo,t2,t3,hx1,hx2,hg]
        ·simp -implicitDefEqProofs[f66,t1,hps,e1,e2,hpo,t2,hx1,hg]
      ·simp -implicitDefEqProofs[f66,t1,hps,e1,e2,hpo]
   ·simp -implicitDefEqProofs[f66,t1,hps]
  ·simp -implicitDefEqProofs[f66,t1,hps]
theorem EU (k:Int)(hk:single k=true)(w:W)(hw:w.OK):Ca E0 66 [.d (.v (.int .i64 k)),.d w.d] (.d (.v (.bool (fI k w))),none):=by
 have:k=1\/k=2\/k=3\/k=4\/k=5:=by
  simp only[single,Qb2,decide_eq_true_eq]at hk;omega
 rcases this with rfl|rfl|rfl|rfl|rfl
 ·exact LX w hw
 ·exact LY w hw
 ·exact L8 w hw
 ·exact LZ w hw
 ·exact L6 w hw
def rC:FV:=.d (.a [(.fn 149),(.fn 151),(.fn 152),(.fn 154),(.fn 156),(.fn 158),(.fn 118),(.fn 160),(.fn 163)])
def rD:FV:=.d Er
def o9:List FV:=[(.d (.fn 122)),(.d (.fn 123)),(.d (.fn 124)),(.d (.fn 125)),(.d (.fn 127)),(.f 195 [] [(.r (.old 3) 0)]),(.d (.fn 126)),(.d (.fn 128)),(.f 131 [] [(.r (.old 2) 0)])]
def vg:FV:=.a o9
def rE:List ae:=[.box o9,.box o9,.box o9,.box [(.d (.fn 124))]]
def o_:List FV:=[(.d (.fn 133)),(.d (.fn 110)),(.d (.fn 111)),(.f 137 [] [(.r (.old 2) 0)]),(.d (.fn 115)),(.f 195 [] [(.r (.old 3) 0)]),(.d (.fn 136)),(.d (.fn 119)),(.f 138 [] [(.r (.old 2) 0)])]
def vk:FV:=.a o_
def rF:List ae:=[.box o_,.box o_,.box o_,.box [(.d (.fn 111))]]
def pE:List FV:=[(.d (.fn 139)),(.d (.fn 140)),(.d (.fn 141)),(.d (.fn 142)),(.d (.fn 143)),(.f 195 [] [(.r (.old 3) 0)]),(.d (.fn 118)),(.d (.fn 144)),(.f 147 [] [(.r (.old 2) 0)])]
def vz:FV:=.a pE
def rG:List ae:=[.box pE,.box pE,.box pE,.box [(.d (.fn 141))]]
theorem BO:bW E0 60 42 [.d (.v (.int .i64 1))] []=some (rD,none):=by kernel_rfl
theorem BP:bW E0 60 42 [.d (.v (.int .i64 5))] []=some (rC,none):=by kernel_rfl
theorem BQ:bW E0 60 42 [.d (.v (.int .i64 2))] []=some (vg,some rE):=by kernel_rfl
theorem BR:bW E0 60 42 [.d (.v (.int .i64 3))] []=some (vk,some rF):=by kernel_rfl
theorem BS:bW E0 60 42 [.d (.v (.int .i64 4))] []=some (vz,some rG):=by kernel_rfl
theorem uM {N g:Nat}{args:List FV}{r:FV × Option (List ae)}(h:bW E0 N g args []=some r)(m:Nat)(hm:N<=m):CL E0 m g args []=some r:=by rw[jH];exact yH h hm
def BU (k:Int):Nat:=if k=1 then 108 else if k=2 then 122 else if k=3 then 133 else if k=4 then 139 else 149
theorem aO {k:Int}(hk:single k=true):k=1\/k=2\/k=3\/k=4\/k=5:=by
 simp only[single,Qb2,decide_eq_true_eq]at hk;omega
theorem TY (k:Int)(hk:single k=true)(w:W)(hw:w.OK):Ca E0 (BU k) [.d w.d] (.d (.v (.bool (fI k w))),none):=by
 rcases aO hk with rfl|rfl|rfl|rfl|rfl
 ·exact Og w hw
 ·exact Yx w hw
 ·exact YA w hw
 ·exact Yy w hw
 ·exact Yz w hw
def W.ps:W->List W
 | .mk _ _ _ _ _ _ _ ps=>ps
def W.bare:W->Bool
 | .mk s a b c i u p _=>q0 s a b&&(c==0) && !i&&(u==0)&&p.isEmpty
def uE:List Int->List W->Bool
 | k::r,w::s=>fI k w&&uE r s
 | _,_=>true
def cZ (k:Int)(ps:List Int)(w:W):Bool:=aJ k ps&&(if k≠6 then fI k w else(w.ps.length==ps.length)&&w.bare&&uE ps w.ps)
mutual
theorem W.AQ:∀ w:W,w.eq w=true
 | .mk s a b c i u p ps=>by
  simp only[W.eq,BM ET,W.wM ps];simp
theorem W.wM:∀ l:List W,W.eqs l l=true
 | []=>rfl
 | w::r=>by simp[W.eqs,W.AQ w,W.wM r]
end
theorem eq_bare (s:Bool)(a b:List Nat)(c:Int)(i:Bool)(u:Int)(p:List Mo)(ps:List W):W.eq (.mk s a b c i u p ps) (.mk false [] [] 0 false 0 [] ps)=W.bare (.mk s a b c i u p ps):=by
 simp only[W.eq,AL,W.wM,wL,W.bare];cases i<;>simp
theorem TZ (s:Bool)(a b:List Nat)(c:Int)(i:Bool)(u:Int)(p:List Mo)(ps:List W):W.eq (.mk false [] [] 0 false 0 [] ps) (.mk s a b c i u p ps)=W.bare (.mk s a b c i u p ps):=by
 have e1:(false==s&&decide ([]=a)&&decide ([]=b))=q0 s a b:=by
  unfold q0;have h1:decide (([]:List Nat)=a)=decide (a=[]):=by congr 1;exact propext ⟨fun h=>h.symm,fun h=>h.symm⟩
  have h2:decide (([]:List Nat)=b)=decide (b=[]):=by congr 1;exact propext ⟨fun h=>h.symm,fun h=>h.symm⟩
  rw[h1,h2];cases s<;>rfl
 have e2:∀ l:List Mo,iT Mo.eq [] l=l.isEmpty:=by intro l;cases l<;>rfl
 have e3:∀ x:Int,((0:Int)==x)=(x==0):=by
  intro x
  by_cases h:x=0
  ·rw[h]
  ·rw[beq_eq_false_iff_ne.2 h,beq_eq_false_iff_ne.2 (Ne.symm h)]
 simp only[W.eq,e1,e2,e3,W.wM,W.bare];cases i<;>simp
def L9:aG:=f18.body.r.r.r.r.l.r.bl.lp
def Xu (rb:ae)(wb:List FV)(ks:List Int)(j:Nat)(bs:List ae)(t:FV):St:=(st0 [.u,.u,.u,.r (.loc 1) 0,.u,.u,.u,.u,.u,.u,.d (.s 1 (LK .i64 ks)),.d (.v (.int .i64 ks.length)),.d (.v (.int .i64 j)),t,.u] (rb::.box wb::bs))
def ckF (rb:ae)(wb:List FV)(bs:List ae):St:=(st0 [.u,.u,.u,.u,.d (.v (.bool false)),.u,.u,.u,.u,.u,.u,.u,.u,.u,.u] (rb::.box wb::bs))
theorem T9 (rb:ae)(p1 p2 p3 p4 p5 p6 p7:D)(ws:List W)(ks:List Int)(j:Nat)(bs:List ae)(k:Int)(w:W)(hl:ks.length<=1000000)(hk:ks[j]?=some k)(hw:ws[j]?=some w)(hs:single k=true)(ok:w.OK) :
  ∃ bs',Ex E0 L9 (Xu rb [.d p1,.d p2,.d p3,.d p4,.d p5,.d p6,.d p7,.d (.s 8 (W.ds ws))] ks j bs .u)
   (if fI k w then(.norm,Xu rb [.d p1,.d p2,.d p3,.d p4,.d p5,.d p6,.d p7,.d (.s 8 (W.ds ws))] ks (j+1) bs' .u) else(.ret,ckF rb [.d p1,.d p2,.d p3,.d p4,.d p5,.d p6,.d p7,.d (.s 8 (W.ds ws))] bs')):=by
 have hj:=(bD hk)
 have hj2:=(bD hw)
 obtain⟨n1,t1⟩:=(TY k hs w ok).any;replace t1:=t1 (n1+60) omK;have n1':(LK .i64 ks).length=ks.length:=by simp[LK]
 have P_:(W.ds ws).length=ws.length:=by simp[W.gX]
 have e1:(LK .i64 ks)[j]?=some (.v (.int .i64 k)):=by simp[LK,hk]
 have e2:(W.ds ws)[j]?=some w.d:=by simp[W.gX,hw]
 have bz:ah .i64 ((j:Int)+1)=(j:Int)+1:=wrap_i64 omK;have hk1:((j+1:Nat):Int)=(j:Int)+1:=by omega
 have hk0:(0:Int)<=(j:Int):=by omega
 obtain⟨vv,hvv⟩:∃ vv,fI k w=vv:=⟨_,rfl⟩
 rw[hvv]at t1 ⊢;obtain⟨sx,ax,bx,cx,ix,ux,px,KZ⟩:=w;simp only[W.d,PD,LD]at*;generalize LL ax=x1,LL bx=x2,List.map Mo.d px=x5,W.ds KZ=x7 at*;unfold Xu ckF;rw[hk1];generalize W.ds ws=es2 at*;have i2:=idx e2;have five:=aO hs;clear hs ok hvv hw;rcases five with rfl|rfl|rfl|rfl|rfl
 ·have t2:=fun m=>uM BO (n1+60+m) omK
  have hF:BU 1=108:=rfl;rw[hF]at t1;clear hk;generalize LK .i64 ks=es1 at*;have i1:=idx e1;generalize n1+60=N at*;refine⟨bs,Ex.of (n:=N+300) ?_⟩;simp only[rD,Er]at t2 ⊢;cases vv
  ·simp -implicitDefEqProofs[L9,f18,hj,hj2,hk0,i1,i2,n1',P_,t1,t2]
  ·simp -implicitDefEqProofs[L9,f18,hj,hj2,hk0,i1,i2,n1',P_,t1,t2,bz]
 ·have t2:=fun m=>uM BQ (n1+60+m) omK
  have hF:BU 2=122:=rfl;rw[hF]at t1;clear hk;generalize LK .i64 ks=es1 at*;have i1:=idx e1;generalize n1+60=N at*;refine⟨bs++rE.map (ae.shift (bs.length+2)),Ex.of (n:=N+300) ?_⟩;simp only[vg,o9,rE]at t2 ⊢;cases vv
  ·simp -implicitDefEqProofs[L9,f18,hj,hj2,hk0,i1,i2,n1',P_,t1,t2]
  ·simp -implicitDefEqProofs[L9,f18,hj,hj2,hk0,i1,i2,n1',P_,t1,t2,bz]
 ·have t2:=fun m=>uM BR (n1+60+m) omK
  have hF:BU 3=133:=rfl;rw[hF]at t1;clear hk;generalize LK .i64 ks=es1 at*;have i1:=idx e1;generalize n1+60=N at*;refine⟨bs++rF.map (ae.shift (bs.length+2)),Ex.of (n:=N+300) ?_⟩;simp only[vk,o_,rF]at t2 ⊢;cases vv
  ·simp -implicitDefEqProofs[L9,f18,hj,hj2,hk0,i1,i2,n1',P_,t1,t2]
  ·simp -implicitDefEqProofs[L9,f18,hj,hj2,hk0,i1,i2,n1',P_,t1,t2,bz]
 ·have t2:=fun m=>uM BS (n1+60+m) omK
  have hF:BU 4=139:=rfl;rw[hF]at t1;clear hk;generalize LK .i64 ks=es1 at*;have i1:=idx e1;generalize n1+60=N at*;refine⟨bs++rG.map (ae.shift (bs.length+2)),Ex.of (n:=N+300) ?_⟩;simp only[vz,pE,rG]at t2 ⊢;cases vv
  ·simp -implicitDefEqProofs[L9,f18,hj,hj2,hk0,i1,i2,n1',P_,t1,t2]
  ·simp -implicitDefEqProofs[L9,f18,hj,hj2,hk0,i1,i2,n1',P_,t1,t2,bz]
 ·have t2:=fun m=>uM BP (n1+60+m) omK
  have hF:BU 5=149:=rfl;rw[hF]at t1;clear hk;generalize LK .i64 ks=es1 at*;have i1:=idx e1;generalize n1+60=N at*;refine⟨bs,Ex.of (n:=N+300) ?_⟩;simp only[rC]at t2 ⊢;cases vv
  ·simp -implicitDefEqProofs[L9,f18,hj,hj2,hk0,i1,i2,n1',P_,t1,t2]
  ·simp -implicitDefEqProofs[L9,f18,hj,hj2,hk0,i1,i2,n1',P_,t1,t2,bz]
theorem YB (rb:ae)(p1 p2 p3 p4 p5 p6 p7:D)(ws:List W)(ks:List Int)(hl:ks.length<=1000000)(he:ws.length=ks.length)(hs:ks.all single=true)(ok:∀ w ∈ ws,w.OK) :
  ∃ r,Ex E0 (.loop L9) (Xu rb [.d p1,.d p2,.d p3,.d p4,.d p5,.d p6,.d p7,.d (.s 8 (W.ds ws))] ks 0 [] .u) r /\
   ((uE ks ws=true/\∃ bs,r=(.exit 0,Xu rb [.d p1,.d p2,.d p3,.d p4,.d p5,.d p6,.d p7,.d (.s 8 (W.ds ws))] ks ks.length bs (.d (.v (.bool false))))) \/
    (uE ks ws=false/\∃ bs,r=(.ret,ckF rb [.d p1,.d p2,.d p3,.d p4,.d p5,.d p6,.d p7,.d (.s 8 (W.ds ws))] bs))):=by
 refine Ex.inv (S:=fun t:Nat × List ae=>Xu rb [.d p1,.d p2,.d p3,.d p4,.d p5,.d p6,.d p7,.d (.s 8 (W.ds ws))] ks t.1 t.2 .u) (fun t=>ks.length-t.1) (fun t=>t.1<=ks.length/\uE ks ws=uE (ks.drop t.1) (ws.drop t.1)) _ ?_ (0,[]) ⟨by simp,by simp⟩;rintro⟨j,bs⟩ ⟨q1,q2⟩;simp only at q1 q2
 by_cases hj:j<ks.length
 ·have hk:ks[j]?=some (ks[j]'hj):=Qa0 hj;have hw:ws[j]?=some (ws[j]'(by omega)):=Qa0 omK;have d1:ks.drop j=ks[j]'hj::ks.drop (j+1):=Qj0 hj;have d2:ws.drop j=ws[j]'(by omega)::ws.drop (j+1):=Qj0 omK;obtain⟨bs',hr⟩:=T9 rb p1 p2 p3 p4 p5 p6 p7 ws ks j bs _ _ hl hk hw (Qf2.1 hs _ (Qi2 hj)) (ok _ (Qi2 omK));rw[d1,d2]at q2;simp only[uE]at q2;cases hv:fI (ks[j]'hj) (ws[j]'(by omega))
  ·rw[hv]at hr q2;exact .inr ⟨_,hr,by simp,.inr ⟨by simpa using q2,bs',rfl⟩⟩
  ·rw[hv]at hr q2;exact .inl ⟨(j+1,bs'),hr,by simp only;omega,by simp only;omega,by simpa using q2⟩
 ·have qQ:j=ks.length:=by omega
  subst qQ;rw[Qt1]at q2;refine .inr ⟨_,Ex.of (n:=60) ?_,?_,.inl ⟨by rw[q2];rfl,bs,rfl⟩⟩
  ·unfold Xu;generalize LK .i64 ks=l1,W.ds ws=l2,ks.length=m at*;simp -implicitDefEqProofs[L9,f18]
  ·simp
theorem Qa (ps:List Int)(w:W)(hl:ps.length<=1000000)(hw:w.OK)(wN:aJ 6 ps=true)(hv:∀ n,CL E0 (n+500) 31 [.d (bA 6 ps)] []=some (.d (.v (.bool true)),none)) :
  Ca E0 18 [.d (bA 6 ps),.d w.d] (.d (.v (.bool ((w.ps.length==ps.length)&&w.bare&&uE ps w.ps))),none):=by
 have hs:ps.all single=true:=by
  unfold aJ at wN;rw[if_neg (by simp)]at wN;simp only[Qb2]at wN;exact wN.2
 have ok:=hw;cases hw with
 | @mk s a b c i u p ws ha hb la lb hp lp hok =>
  simp only[W.ps];have n1:(LK .i64 ps).length=ps.length:=by simp[LK]
  have n2:(W.ds ws).length=ws.length:=by simp[W.gX]
  obtain⟨N,t⟩:=(jF _ ok _ (.mk (s:=false) (a:=[]) (b:=[]) (c:=0) (i:=false) (u:=0) (p:=[]) kM kM (by simp) (by simp) BN lp hok)).any;rw[eq_bare]at t;generalize hbare:W.bare (.mk s a b c i u p ws)=bare at*
  by_cases hlen:ws.length=ps.length
  ·have hl1:(ws.length==ps.length)=true:=by simpa using hlen
   have hne:((ws.length:Int) != (ps.length:Int))=false:=by simp;omega
   rw[hl1,Qs0];cases hbb:bare
   ·rw[hbb]at t;rw[Q41];replace t:=t N omK;refine Ca.bO (n:=N+700) ?_;rw[av rfl (k18:E0.fn _=_) rfl];have hv':=fun n=>hv (N+n)
    simp only[W.d,W.ds,PD,LD,bA]at*;generalize LL a=x1,LL b=x2 at*;simp only[LL,Qc0]at*;generalize List.map Mo.d p=x5,W.ds ws=x7,LK .i64 ps=l1 at*;simp -implicitDefEqProofs[f18,hv,t,n1,n2,hne]
   ·rw[hbb]at t;rw[Qs0];obtain⟨r,hr,hq⟩:=YB (.box [.d (.v (.int .i64 6)),.d (.s 1 (LK .i64 ps))]) (.v (.bool s)) (LD a) (LD b) (.v (.int .i64 c)) (.v (.bool i)) (.v (.int .u64 u)) (PD p) ws ps hl hlen hs hok;replace t:=t N omK;have hA:Ex E0 f18.body.l (st0 [.d (bA 6 ps),.d (W.mk s a b c i u p ws).d,.u,.u,.u,.u,.u,.u,.u,.u,.u,.u,.u,.u,.u] [])
      (.norm,(st0 [.u,.u,.r (.loc 0) 0,.r (.loc 1) 0,.u,.u,.u,.u,.u,.u,.u,.u,.u,.u,.u] [.box [.d (.v (.int .i64 6)),.d (.s 1 (LK .i64 ps))],.box [.d (.v (.bool s)),.d (LD a),.d (LD b),.d (.v (.int .i64 c)),.d (.v (.bool i)),.d (.v (.int .u64 u)),.d (PD p),.d (.s 8 (W.ds ws))]])):=by
     refine Ex.of (n:=40) ?_;simp only[W.d,PD,LD,bA];generalize LL a=x1,LL b=x2,List.map Mo.d p=x5,W.ds ws=x7,LK .i64 ps=l1 at*;simp -implicitDefEqProofs[f18]
    have hB:Ex E0 f18.body.r.l (st0 [.u,.u,.r (.loc 0) 0,.r (.loc 1) 0,.u,.u,.u,.u,.u,.u,.u,.u,.u,.u,.u] [.box [.d (.v (.int .i64 6)),.d (.s 1 (LK .i64 ps))],.box [.d (.v (.bool s)),.d (LD a),.d (LD b),.d (.v (.int .i64 c)),.d (.v (.bool i)),.d (.v (.int .u64 u)),.d (PD p),.d (.s 8 (W.ds ws))]])
      (.norm,(st0 [.u,.u,.r (.loc 0) 0,.r (.loc 1) 0,.u,.u,.u,.d (.v (.bool false)),.u,.u,.u,.u,.u,.u,.u] [.box [.d (.v (.int .i64 6)),.d (.s 1 (LK .i64 ps))],.box [.d (.v (.bool s)),.d (LD a),.d (LD b),.d (.v (.int .i64 c)),.d (.v (.bool i)),.d (.v (.int .u64 u)),.d (PD p),.d (.s 8 (W.ds ws))]])):=by
     clear hr hq hA;refine Ex.of (n:=600) ?_;simp only[PD,LD,bA]at hv ⊢;generalize LL a=x1,LL b=x2,List.map Mo.d p=x5,W.ds ws=x7,LK .i64 ps=l1 at*;simp -implicitDefEqProofs[f18,hv]
    have hC:Ex E0 f18.body.r.r.l (st0 [.u,.u,.r (.loc 0) 0,.r (.loc 1) 0,.u,.u,.u,.d (.v (.bool false)),.u,.u,.u,.u,.u,.u,.u] [.box [.d (.v (.int .i64 6)),.d (.s 1 (LK .i64 ps))],.box [.d (.v (.bool s)),.d (LD a),.d (LD b),.d (.v (.int .i64 c)),.d (.v (.bool i)),.d (.v (.int .u64 u)),.d (PD p),.d (.s 8 (W.ds ws))]])
      (.norm,(st0 [.u,.u,.r (.loc 0) 0,.r (.loc 1) 0,.u,.u,.u,.u,.d (.v (.bool false)),.u,.u,.u,.u,.u,.u] [.box [.d (.v (.int .i64 6)),.d (.s 1 (LK .i64 ps))],.box [.d (.v (.bool s)),.d (LD a),.d (LD b),.d (.v (.int .i64 c)),.d (.v (.bool i)),.d (.v (.int .u64 u)),.d (PD p),.d (.s 8 (W.ds ws))]])):=by
     refine Ex.of (n:=60) ?_;simp only[PD,LD];generalize LL a=x1,LL b=x2,List.map Mo.d p=x5,W.ds ws=x7,LK .i64 ps=l1 at*;simp -implicitDefEqProofs[f18]
    have hD:Ex E0 f18.body.r.r.r.l (st0 [.u,.u,.r (.loc 0) 0,.r (.loc 1) 0,.u,.u,.u,.u,.d (.v (.bool false)),.u,.u,.u,.u,.u,.u] [.box [.d (.v (.int .i64 6)),.d (.s 1 (LK .i64 ps))],.box [.d (.v (.bool s)),.d (LD a),.d (LD b),.d (.v (.int .i64 c)),.d (.v (.bool i)),.d (.v (.int .u64 u)),.d (PD p),.d (.s 8 (W.ds ws))]])
      (.norm,(st0 [.u,.u,.r (.loc 0) 0,.r (.loc 1) 0,.u,.u,.u,.u,.u,.d (.v (.bool false)),.u,.u,.u,.u,.u] [.box [.d (.v (.int .i64 6)),.d (.s 1 (LK .i64 ps))],.box [.d (.v (.bool s)),.d (LD a),.d (LD b),.d (.v (.int .i64 c)),.d (.v (.bool i)),.d (.v (.int .u64 u)),.d (PD p),.d (.s 8 (W.ds ws))]])):=by
     clear hr hq hA hB hC hv;refine Ex.of (n:=N+90) ?_;simp only[W.d,PD,LD,W.ds]at t ⊢;generalize LL a=x1,LL b=x2 at*;simp only[LL,Qc0]at t;generalize List.map Mo.d p=x5,W.ds ws=x7,LK .i64 ps=l1 at*;simp -implicitDefEqProofs[f18,t,n1,n2,hne]
    have hE:Ex E0 f18.body.r.r.r.r.l.l (st0 [.u,.u,.r (.loc 0) 0,.r (.loc 1) 0,.u,.u,.u,.u,.u,.d (.v (.bool false)),.u,.u,.u,.u,.u] [.box [.d (.v (.int .i64 6)),.d (.s 1 (LK .i64 ps))],.box [.d (.v (.bool s)),.d (LD a),.d (LD b),.d (.v (.int .i64 c)),.d (.v (.bool i)),.d (.v (.int .u64 u)),.d (PD p),.d (.s 8 (W.ds ws))]])
      (.norm,Xu (.box [.d (.v (.int .i64 6)),.d (.s 1 (LK .i64 ps))]) [.d (.v (.bool s)),.d (LD a),.d (LD b),.d (.v (.int .i64 c)),.d (.v (.bool i)),.d (.v (.int .u64 u)),.d (PD p),.d (.s 8 (W.ds ws))] ps 0 [] .u):=by
     refine Ex.of (n:=60) ?_;unfold Xu;simp only[PD,LD];generalize LL a=x1,LL b=x2,List.map Mo.d p=x5,W.ds ws=x7,LK .i64 ps=l1 at*;simp -implicitDefEqProofs[f18,n1]
    rcases hq with ⟨hall,bs,rfl⟩|⟨hall,bs,rfl⟩
    ·rw[hall];refine Ca.body (o:=.ret) (st1:=(st0 [.u,.u,.u,.u,.d (.v (.bool true)),.u,.u,.u,.u,.u,.u,.u,.u,.u,.u] (.box [.d (.v (.int .i64 6)),.d (.s 1 (LK .i64 ps))]::.box [.d (.v (.bool s)),.d (LD a),.d (LD b),.d (.v (.int .i64 c)),.d (.v (.bool i)),.d (.v (.int .u64 u)),.d (PD p),.d (.s 8 (W.ds ws))]::bs))) rfl (k18:E0.fn _=_) rfl ?_ (by intro id h;cases h) ?_
     ·show Ex E0 (.seq f18.body.l (.seq f18.body.r.l (.seq f18.body.r.r.l (.seq f18.body.r.r.r.l (.seq (.seq f18.body.r.r.r.r.l.l (.block 0 (.loop L9))) f18.body.r.r.r.r.r))))) _ _;refine hA.seq (hB.seq (hC.seq (hD.seq ((hE.seq hr.block).seq (Ex.of (n:=40) ?_)))));unfold Xu;generalize LK .i64 ps=l1 at*;simp -implicitDefEqProofs[f18]
     ·simp -implicitDefEqProofs[f18]
    ·rw[hall];refine Ca.body (o:=.ret) (st1:=ckF (.box [.d (.v (.int .i64 6)),.d (.s 1 (LK .i64 ps))]) [.d (.v (.bool s)),.d (LD a),.d (LD b),.d (.v (.int .i64 c)),.d (.v (.bool i)),.d (.v (.int .u64 u)),.d (PD p),.d (.s 8 (W.ds ws))] bs) rfl (k18:E0.fn _=_) rfl ?_ (by intro id h;cases h) ?_
     ·show Ex E0 (.seq f18.body.l (.seq f18.body.r.l (.seq f18.body.r.r.l (.seq f18.body.r.r.r.l (.seq (.seq f18.body.r.r.r.r.l.l (.block 0 (.loop L9))) f18.body.r.r.r.r.r))))) _ _;exact hA.seq (hB.seq (hC.seq (hD.seq (hE.seq hr.b_).dG)))
     ·simp -implicitDefEqProofs[f18,ckF]
  ·have hl1:(ws.length==ps.length)=false:=by simpa using hlen
   have hne:((ws.length:Int) != (ps.length:Int))=true:=by simp;omega
   rw[hl1,Q41,Q41];refine Ca.bO (n:=700) ?_;rw[av rfl (k18:E0.fn _=_) rfl];simp only[W.d,PD,LD,bA]at*;generalize LL a=x1,LL b=x2,List.map Mo.d p=x5,W.ds ws=x7,LK .i64 ps=l1 at*;simp -implicitDefEqProofs[f18,hv,n1,n2,hne]
theorem Qb (k:Int)(ps:List Int)(w:W)(hk:k≠6)(hw:w.OK)(wN:aJ k ps=true)(hv:∀ n,CL E0 (n+500) 31 [.d (bA k ps)] []=some (.d (.v (.bool true)),none)) :
  Ca E0 18 [.d (bA k ps),.d w.d] (.d (.v (.bool (fI k w))),none):=by
 have hne:(k != 6)=true:=by simpa using hk
 have hs:single k=true:=by
  unfold aJ at wN;rw[if_pos hk]at wN;simp only[Qb2]at wN;exact wN.1
 obtain⟨n1,t1⟩:=(TY k hs w hw).any;replace t1:=t1 (n1+600) omK;have hv':∀ m,CL E0 (n1+600+m) 31 [.d (bA k ps)] []=some (.d (.v (.bool true)),none):=fun m=>by
  have:=hv (n1+100+m)
  rwa [show n1+100+m+500=n1+600+m by omega]at this
 clear hv;generalize fI k w=vv at*;clear wN hw;obtain⟨sx,ax,bx,cx,ix,ux,px,KZ⟩:=w;simp only[W.d,PD,LD,bA]at*;generalize LL ax=x1,LL bx=x2,List.map Mo.d px=x5,W.ds KZ=x7 at*;rcases aO hs with rfl|rfl|rfl|rfl|rfl
 ·have t2:=fun m=>uM BO (n1+600+m) omK
  have hF:BU 1=108:=rfl;rw[hF]at t1;generalize n1+600=N at*;refine Ca.bO (n:=N+90) ?_;rw[av rfl (k18:E0.fn _=_) rfl];simp only[rD,Er]at t2;generalize LK .i64 ps=l1 at*;simp -implicitDefEqProofs[f18,hv',t1,t2]
 ·have t2:=fun m=>uM BQ (n1+600+m) omK
  have hF:BU 2=122:=rfl;rw[hF]at t1;generalize n1+600=N at*;refine Ca.bO (n:=N+90) ?_;rw[av rfl (k18:E0.fn _=_) rfl];simp only[vg,o9,rE]at t2;generalize LK .i64 ps=l1 at*;simp -implicitDefEqProofs[f18,hv',t1,t2]
 ·have t2:=fun m=>uM BR (n1+600+m) omK
  have hF:BU 3=133:=rfl;rw[hF]at t1;generalize n1+600=N at*;refine Ca.bO (n:=N+90) ?_;rw[av rfl (k18:E0.fn _=_) rfl];simp only[vk,o_,rF]at t2;generalize LK .i64 ps=l1 at*;simp -implicitDefEqProofs[f18,hv',t1,t2]
 ·have t2:=fun m=>uM BS (n1+600+m) omK
  have hF:BU 4=139:=rfl;rw[hF]at t1;generalize n1+600=N at*;refine Ca.bO (n:=N+90) ?_;rw[av rfl (k18:E0.fn _=_) rfl];simp only[vz,pE,rG]at t2;generalize LK .i64 ps=l1 at*;simp -implicitDefEqProofs[f18,hv',t1,t2]
 ·have t2:=fun m=>uM BP (n1+600+m) omK
  have hF:BU 5=149:=rfl;rw[hF]at t1;generalize n1+600=N at*;refine Ca.bO (n:=N+90) ?_;rw[av rfl (k18:E0.fn _=_) rfl];simp only[rC]at t2;generalize LK .i64 ps=l1 at*;simp -implicitDefEqProofs[f18,hv',t1,t2]
theorem BV (k:Int)(ps:List Int)(w:W)(hl:ps.length<=1000000)(hw:w.OK):Ca E0 18 [.d (bA k ps),.d w.d] (.d (.v (.bool (cZ k ps w))),none):=by
 have hv:=fun n=>o8 n k ps
 unfold cZ;cases wN:aJ k ps
 ·rw[wN]at hv;rw[Q41];refine Ca.bO (n:=600) ?_;rw[av rfl (k18:E0.fn _=_) rfl];obtain⟨sx,ax,bx,cx,ix,ux,px,KZ⟩:=w;simp only[W.d,PD,LD,bA]at*;generalize LL ax=x1,LL bx=x2,List.map Mo.d px=x5,W.ds KZ=x7,LK .i64 ps=l1 at*;simp -implicitDefEqProofs[f18,hv]
 ·rw[wN]at hv;rw[Qs0]
  by_cases hk:k=6
  ·subst hk;rw[if_neg (by simp)];exact Qa ps w hl hw wN hv
  ·rw[if_pos hk];exact Qb k ps w hk hw wN hv
def wcB:aG:=f29.body.r.r.r.r.l.r.bl.lp
def Xv (k:Int)(ks:List Int)(wb:List FV)(j:Nat)(t:FV):St:=(st0 [.u,.u,.r (.loc 0) 0,.r (.loc 1) 0,.u,.d (.v (.int .i64 j)),.u,.u,.u,t,.u] [.box [.d (.v (.int .i64 k)),.d (.s 1 (LK .i64 ks))],.box wb])
def wcF (k:Int)(ks:List Int)(wb:List FV):St:=(st0 [.u,.u,.u,.u,.d (.v (.bool false)),.u,.u,.u,.u,.u,.u] [.box [.d (.v (.int .i64 k)),.d (.s 1 (LK .i64 ks))],.box wb])
theorem T_ (k0:Int)(p1 p2 p3 p4 p5 p6 p7:D)(ws:List W)(ks:List Int)(j:Nat)(k:Int)(w:W)(hl:ks.length<=1000000)(hk:ks[j]?=some k)(hw:ws[j]?=some w)(hs:single k=true)(ok:w.OK) :
  Ex E0 wcB (Xv k0 ks [.d p1,.d p2,.d p3,.d p4,.d p5,.d p6,.d p7,.d (.s 8 (W.ds ws))] j .u)
   (if fI k w then(.norm,Xv k0 ks [.d p1,.d p2,.d p3,.d p4,.d p5,.d p6,.d p7,.d (.s 8 (W.ds ws))] (j+1) .u) else(.ret,wcF k0 ks [.d p1,.d p2,.d p3,.d p4,.d p5,.d p6,.d p7,.d (.s 8 (W.ds ws))])):=by
 have hj:=(bD hk)
 have hj2:=(bD hw)
 obtain⟨N,t1⟩:=(EU k hs w ok).get;have n1':(LK .i64 ks).length=ks.length:=by simp[LK]
 have P_:(W.ds ws).length=ws.length:=by simp[W.gX]
 have e1:(LK .i64 ks)[j]?=some (.v (.int .i64 k)):=by simp[LK,hk]
 have e2:(W.ds ws)[j]?=some w.d:=by simp[W.gX,hw]
 have bz:ah .i64 ((j:Int)+1)=(j:Int)+1:=wrap_i64 omK;have hk1:((j+1:Nat):Int)=(j:Int)+1:=by omega
 have hk0:(0:Int)<=(j:Int):=by omega
 generalize fI k w=vv at*;clear hs ok hw hk;obtain⟨sx,ax,bx,cx,ix,ux,px,KZ⟩:=w;simp only[W.d,PD,LD]at*;generalize LL ax=x1,LL bx=x2,List.map Mo.d px=x5,W.ds KZ=x7 at*;refine Ex.of (n:=N+90) ?_;unfold Xv wcF;rw[hk1];generalize W.ds ws=es2,LK .i64 ks=es1 at*;have i1:=idx e1;have i2:=idx e2;cases vv
 ·simp -implicitDefEqProofs[wcB,f29,hj,hj2,hk0,e1,e2,i1,i2,n1',P_,t1]
 ·simp -implicitDefEqProofs[wcB,f29,hj,hj2,hk0,e1,e2,i1,i2,n1',P_,t1,bz]
theorem YC (k0:Int)(p1 p2 p3 p4 p5 p6 p7:D)(ws:List W)(ks:List Int)(hl:ks.length<=1000000)(he:ws.length=ks.length)(hs:ks.all single=true)(ok:∀ w ∈ ws,w.OK) :
  ∃ r,Ex E0 (.loop wcB) (Xv k0 ks [.d p1,.d p2,.d p3,.d p4,.d p5,.d p6,.d p7,.d (.s 8 (W.ds ws))] 0 .u) r /\
   ((uE ks ws=true/\r=(.exit 0,Xv k0 ks [.d p1,.d p2,.d p3,.d p4,.d p5,.d p6,.d p7,.d (.s 8 (W.ds ws))] ks.length (.d (.v (.bool false))))) \/
    (uE ks ws=false/\r=(.ret,wcF k0 ks [.d p1,.d p2,.d p3,.d p4,.d p5,.d p6,.d p7,.d (.s 8 (W.ds ws))]))):=by
 refine Ex.inv (S:=fun j:Nat=>Xv k0 ks [.d p1,.d p2,.d p3,.d p4,.d p5,.d p6,.d p7,.d (.s 8 (W.ds ws))] j .u) (fun j=>ks.length-j) (fun j=>j<=ks.length/\uE ks ws=uE (ks.drop j) (ws.drop j)) _ ?_ 0 ⟨by simp,by simp⟩;rintro j ⟨q1,q2⟩
 by_cases hj:j<ks.length
 ·have hk:ks[j]?=some (ks[j]'hj):=Qa0 hj;have hw:ws[j]?=some (ws[j]'(by omega)):=Qa0 omK;have d1:ks.drop j=ks[j]'hj::ks.drop (j+1):=Qj0 hj;have d2:ws.drop j=ws[j]'(by omega)::ws.drop (j+1):=Qj0 omK;have hr:=T_ k0 p1 p2 p3 p4 p5 p6 p7 ws ks j _ _ hl hk hw (Qf2.1 hs _ (Qi2 hj)) (ok _ (Qi2 omK));rw[d1,d2]at q2;simp only[uE]at q2;cases hv:fI (ks[j]'hj) (ws[j]'(by omega))
  ·rw[hv]at hr q2;exact .inr ⟨_,hr,by simp,.inr ⟨by simpa using q2,rfl⟩⟩
  ·rw[hv]at hr q2;exact .inl ⟨j+1,hr,by omega,by omega,by simpa using q2⟩
 ·have qQ:j=ks.length:=by omega
  subst qQ;have n1':(LK .i64 ks).length=ks.length:=by simp[LK]
  rw[Qt1]at q2;refine .inr ⟨_,Ex.of (n:=60) ?_,?_,.inl ⟨by rw[q2];rfl,rfl⟩⟩
  ·unfold Xv;generalize LK .i64 ks=l1,W.ds ws=l2,ks.length=m at*;simp -implicitDefEqProofs[wcB,f29,n1']
  ·simp
theorem L_ (ps:List Int)(w:W)(hl:ps.length<=1000000)(hw:w.OK)(wN:aJ 6 ps=true)(hv:∀ n,CL E0 (n+500) 28 [.d (bA 6 ps)] []=some (.d (.v (.bool true)),none)) :
  Ca E0 29 [.d (bA 6 ps),.d w.d] (.d (.v (.bool ((w.ps.length==ps.length)&&w.bare&&uE ps w.ps))),none):=by
 have hs:ps.all single=true:=by
  unfold aJ at wN;rw[if_neg (by simp)]at wN;simp only[Qb2]at wN;exact wN.2
 have ok:=hw;cases hw with
 | @mk s a b c i u p ws ha hb la lb hp lp hok =>
  simp only[W.ps];have n1:(LK .i64 ps).length=ps.length:=by simp[LK]
  have n2:(W.ds ws).length=ws.length:=by simp[W.gX]
  obtain⟨N,t⟩:=(yE _ (.mk (s:=false) (a:=[]) (b:=[]) (c:=0) (i:=false) (u:=0) (p:=[]) kM kM (by simp) (by simp) BN lp hok) _ ok).any;rw[TZ]at t;generalize hbare:W.bare (.mk s a b c i u p ws)=bare at*
  by_cases hlen:ws.length=ps.length
  ·have hl1:(ws.length==ps.length)=true:=by simpa using hlen
   have hne:((ws.length:Int) != (ps.length:Int))=false:=by simp;omega
   rw[hl1,Qs0];have hA:Ex E0 f29.body.l (st0 [.d (bA 6 ps),.d (W.mk s a b c i u p ws).d,.u,.u,.u,.u,.u,.u,.u,.u,.u] [])
     (.norm,(st0 [.u,.u,.r (.loc 0) 0,.r (.loc 1) 0,.u,.u,.u,.u,.u,.u,.u] [.box [.d (.v (.int .i64 6)),.d (.s 1 (LK .i64 ps))],.box [.d (.v (.bool s)),.d (LD a),.d (LD b),.d (.v (.int .i64 c)),.d (.v (.bool i)),.d (.v (.int .u64 u)),.d (PD p),.d (.s 8 (W.ds ws))]])):=by
    refine Ex.of (n:=40) ?_;simp only[W.d,PD,LD,bA];generalize LL a=x1;generalize LL b=x2;generalize List.map Mo.d p=x5;generalize W.ds ws=x7;generalize LK .i64 ps=l1;simp -implicitDefEqProofs[f29]
   have hB:Ex E0 f29.body.r.l (st0 [.u,.u,.r (.loc 0) 0,.r (.loc 1) 0,.u,.u,.u,.u,.u,.u,.u] [.box [.d (.v (.int .i64 6)),.d (.s 1 (LK .i64 ps))],.box [.d (.v (.bool s)),.d (LD a),.d (LD b),.d (.v (.int .i64 c)),.d (.v (.bool i)),.d (.v (.int .u64 u)),.d (PD p),.d (.s 8 (W.ds ws))]])
     (.norm,(st0 [.u,.u,.r (.loc 0) 0,.r (.loc 1) 0,.u,.u,.d (.v (.bool false)),.u,.u,.u,.u] [.box [.d (.v (.int .i64 6)),.d (.s 1 (LK .i64 ps))],.box [.d (.v (.bool s)),.d (LD a),.d (LD b),.d (.v (.int .i64 c)),.d (.v (.bool i)),.d (.v (.int .u64 u)),.d (PD p),.d (.s 8 (W.ds ws))]])):=by
    refine Ex.of (n:=600) ?_;simp only[PD,LD,bA]at hv ⊢;generalize LL a=x1;generalize LL b=x2;generalize List.map Mo.d p=x5;generalize W.ds ws=x7;generalize LK .i64 ps=l1 at hv ⊢;simp -implicitDefEqProofs[f29,hv]
   have hC:Ex E0 f29.body.r.r.l (st0 [.u,.u,.r (.loc 0) 0,.r (.loc 1) 0,.u,.u,.d (.v (.bool false)),.u,.u,.u,.u] [.box [.d (.v (.int .i64 6)),.d (.s 1 (LK .i64 ps))],.box [.d (.v (.bool s)),.d (LD a),.d (LD b),.d (.v (.int .i64 c)),.d (.v (.bool i)),.d (.v (.int .u64 u)),.d (PD p),.d (.s 8 (W.ds ws))]])
     (.norm,(st0 [.u,.u,.r (.loc 0) 0,.r (.loc 1) 0,.u,.u,.u,.d (.v (.bool false)),.u,.u,.u] [.box [.d (.v (.int .i64 6)),.d (.s 1 (LK .i64 ps))],.box [.d (.v (.bool s)),.d (LD a),.d (LD b),.d (.v (.int .i64 c)),.d (.v (.bool i)),.d (.v (.int .u64 u)),.d (PD p),.d (.s 8 (W.ds ws))]])):=by
    refine Ex.of (n:=60) ?_;simp only[PD,LD];generalize LL a=x1;generalize LL b=x2;generalize List.map Mo.d p=x5;generalize W.ds ws=x7;generalize LK .i64 ps=l1;simp -implicitDefEqProofs[f29]
   cases hbb:bare
   ·rw[hbb]at t;rw[Q41];replace t:=t N omK;refine Ca.body (o:=.ret) (st1:=(st0 [.u,.u,.u,.u,.d (.v (.bool false)),.u,.u,.u,.u,.u,.u] [.box [.d (.v (.int .i64 6)),.d (.s 1 (LK .i64 ps))],.box [.d (.v (.bool s)),.d (LD a),.d (LD b),.d (.v (.int .i64 c)),.d (.v (.bool i)),.d (.v (.int .u64 u)),.d (PD p),.d (.s 8 (W.ds ws))]])) rfl (k29:E0.fn _=_) rfl ?_ (by intro id h;cases h) ?_
    ·show Ex E0 (.seq f29.body.l (.seq f29.body.r.l (.seq f29.body.r.r.l f29.body.r.r.r))) _ _;refine hA.seq (hB.seq (hC.seq (Ex.of (n:=N+90) ?_)));simp only[W.d,PD,LD,W.ds]at t ⊢;generalize LL a=x1 at t ⊢;generalize LL b=x2 at t ⊢;simp only[LL,Qc0]at t;generalize List.map Mo.d p=x5 at t ⊢;generalize W.ds ws=x7 at t n2 ⊢;generalize LK .i64 ps=l1 at n1 ⊢;simp -implicitDefEqProofs[f29,t,n1,n2,hne]
    ·simp -implicitDefEqProofs[f29]
   ·rw[hbb]at t;rw[Qs0];obtain⟨r,hr,hq⟩:=YC 6 (.v (.bool s)) (LD a) (LD b) (.v (.int .i64 c)) (.v (.bool i)) (.v (.int .u64 u)) (PD p) ws ps hl hlen hs hok;replace t:=t N omK;have hD:Ex E0 f29.body.r.r.r.l (st0 [.u,.u,.r (.loc 0) 0,.r (.loc 1) 0,.u,.u,.u,.d (.v (.bool false)),.u,.u,.u] [.box [.d (.v (.int .i64 6)),.d (.s 1 (LK .i64 ps))],.box [.d (.v (.bool s)),.d (LD a),.d (LD b),.d (.v (.int .i64 c)),.d (.v (.bool i)),.d (.v (.int .u64 u)),.d (PD p),.d (.s 8 (W.ds ws))]])
      (.norm,(st0 [.u,.u,.r (.loc 0) 0,.r (.loc 1) 0,.u,.u,.u,.u,.d (.v (.bool false)),.u,.u] [.box [.d (.v (.int .i64 6)),.d (.s 1 (LK .i64 ps))],.box [.d (.v (.bool s)),.d (LD a),.d (LD b),.d (.v (.int .i64 c)),.d (.v (.bool i)),.d (.v (.int .u64 u)),.d (PD p),.d (.s 8 (W.ds ws))]])):=by
     refine Ex.of (n:=N+90) ?_;simp only[W.d,PD,LD,W.ds]at t ⊢;generalize LL a=x1 at t ⊢;generalize LL b=x2 at t ⊢;simp only[LL,Qc0]at t;generalize List.map Mo.d p=x5 at t ⊢;generalize W.ds ws=x7 at t n2 ⊢;generalize LK .i64 ps=l1 at n1 ⊢;simp -implicitDefEqProofs[f29,t,n1,n2,hne]
    have hE:Ex E0 f29.body.r.r.r.r.l.l (st0 [.u,.u,.r (.loc 0) 0,.r (.loc 1) 0,.u,.u,.u,.u,.d (.v (.bool false)),.u,.u] [.box [.d (.v (.int .i64 6)),.d (.s 1 (LK .i64 ps))],.box [.d (.v (.bool s)),.d (LD a),.d (LD b),.d (.v (.int .i64 c)),.d (.v (.bool i)),.d (.v (.int .u64 u)),.d (PD p),.d (.s 8 (W.ds ws))]])
      (.norm,Xv 6 ps [.d (.v (.bool s)),.d (LD a),.d (LD b),.d (.v (.int .i64 c)),.d (.v (.bool i)),.d (.v (.int .u64 u)),.d (PD p),.d (.s 8 (W.ds ws))] 0 .u):=by
     refine Ex.of (n:=60) ?_;unfold Xv;simp only[PD,LD];generalize LL a=x1;generalize LL b=x2;generalize List.map Mo.d p=x5;generalize W.ds ws=x7;generalize LK .i64 ps=l1;simp -implicitDefEqProofs[f29]
    rcases hq with ⟨hall,rfl⟩|⟨hall,rfl⟩
    ·rw[hall];refine Ca.body (o:=.ret) (st1:=(st0 [.u,.u,.u,.u,.d (.v (.bool true)),.u,.u,.u,.u,.u,.u] [.box [.d (.v (.int .i64 6)),.d (.s 1 (LK .i64 ps))],.box [.d (.v (.bool s)),.d (LD a),.d (LD b),.d (.v (.int .i64 c)),.d (.v (.bool i)),.d (.v (.int .u64 u)),.d (PD p),.d (.s 8 (W.ds ws))]])) rfl (k29:E0.fn _=_) rfl ?_ (by intro id h;cases h) ?_
     ·show Ex E0 (.seq f29.body.l (.seq f29.body.r.l (.seq f29.body.r.r.l (.seq f29.body.r.r.r.l (.seq (.seq f29.body.r.r.r.r.l.l (.block 0 (.loop wcB))) f29.body.r.r.r.r.r))))) _ _;refine hA.seq (hB.seq (hC.seq (hD.seq ((hE.seq hr.block).seq (Ex.of (n:=40) ?_)))));unfold Xv;generalize LK .i64 ps=l1;simp -implicitDefEqProofs[f29]
     ·simp -implicitDefEqProofs[f29]
    ·rw[hall];refine Ca.body (o:=.ret) (st1:=wcF 6 ps [.d (.v (.bool s)),.d (LD a),.d (LD b),.d (.v (.int .i64 c)),.d (.v (.bool i)),.d (.v (.int .u64 u)),.d (PD p),.d (.s 8 (W.ds ws))]) rfl (k29:E0.fn _=_) rfl ?_ (by intro id h;cases h) ?_
     ·show Ex E0 (.seq f29.body.l (.seq f29.body.r.l (.seq f29.body.r.r.l (.seq f29.body.r.r.r.l (.seq (.seq f29.body.r.r.r.r.l.l (.block 0 (.loop wcB))) f29.body.r.r.r.r.r))))) _ _;exact hA.seq (hB.seq (hC.seq (hD.seq (hE.seq hr.b_).dG)))
     ·simp -implicitDefEqProofs[f29,wcF]
  ·have hl1:(ws.length==ps.length)=false:=by simpa using hlen
   have hne:((ws.length:Int) != (ps.length:Int))=true:=by simp;omega
   rw[hl1,Q41,Q41];refine Ca.bO (n:=700) ?_;rw[av rfl (k29:E0.fn _=_) rfl];clear t hok ok;simp only[W.d,PD,LD,bA]at*;generalize LL a=x1,LL b=x2,List.map Mo.d p=x5,W.ds ws=x7,LK .i64 ps=l1 at*;simp -implicitDefEqProofs[f29,hv,n1,n2,hne]
theorem tZ (k:Int)(ps:List Int)(w:W)(hl:ps.length<=1000000)(hw:w.OK):Ca E0 29 [.d (bA k ps),.d w.d] (.d (.v (.bool (cZ k ps w))),none):=by
 have hv:=fun n=>fO n k ps
 unfold cZ;cases wN:aJ k ps
 ·rw[wN]at hv;rw[Q41];refine Ca.bO (n:=600) ?_;rw[av rfl (k29:E0.fn _=_) rfl];obtain⟨sx,ax,bx,cx,ix,ux,px,KZ⟩:=w;simp only[W.d,PD,LD,bA]at*;generalize LL ax=x1,LL bx=x2,List.map Mo.d px=x5,W.ds KZ=x7,LK .i64 ps=l1 at*;simp -implicitDefEqProofs[f29,hv]
 ·rw[wN]at hv;rw[Qs0]
  by_cases hk:k=6
  ·subst hk;rw[if_neg (by simp)];exact L_ ps w hl hw wN hv
  ·rw[if_pos hk];have hne:(k != 6)=true:=by simpa using hk
   have hs:single k=true:=by
    unfold aJ at wN;rw[if_pos hk]at wN;simp only[Qb2]at wN;exact wN.1
   obtain⟨n1,t1⟩:=(EU k hs w hw).any;replace t1:=t1 (n1+600) omK;have hv':∀ m,CL E0 (n1+600+m) 28 [.d (bA k ps)] []=some (.d (.v (.bool true)),none):=fun m=>by
    have:=hv (n1+100+m)
    rwa [show n1+100+m+500=n1+600+m by omega]at this
   clear hv;generalize fI k w=vv,n1+600=N at*;clear wN hw;refine Ca.bO (n:=N+90) ?_;rw[av rfl (k29:E0.fn _=_) rfl];obtain⟨sx,ax,bx,cx,ix,ux,px,KZ⟩:=w;simp only[W.d,PD,LD,bA]at*;generalize LL ax=x1,LL bx=x2,List.map Mo.d px=x5,W.ds KZ=x7,LK .i64 ps=l1 at*;simp -implicitDefEqProofs[f29,hv',t1,hne]
end Fi.S
