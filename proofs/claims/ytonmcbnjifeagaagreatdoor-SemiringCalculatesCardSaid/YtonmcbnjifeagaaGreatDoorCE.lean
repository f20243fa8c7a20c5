/- Semirings; weights of a semiring. -/
import Derived.Test.YtonmcbnjifeagaaGreatDoorCD
set_option linter.unusedVariables false
set_option linter.unusedSimpArgs false
noncomputable section
namespace Fi.S
open Go Fi
set_option maxHeartbeats 8000000
set_option maxRecDepth 4000
def aT (k:Int)(ps:List Int):D:=.a [.v (.int .i64 k),.s 1 (LK .i64 ps)]
def single (k:Int):Bool:=decide (1<=k)&&decide (k<=5)
def aH (k:Int)(ps:List Int):Bool:=if k≠6 then single k&&decide (ps=[]) else decide (2<=ps.length)&&decide (ps.length<=3)&&ps.all single
theorem yx (n:Nat)(k:Int):CL E0 (n+30) 67 [.d (.v (.int .i64 k))] []=some (.d (.v (.bool (single k))),none):=by
 rw[ah rfl (k67:E0.fn _=_) rfl];unfold single
 by_cases h:1<=k
 ·by_cases h2:k<=5
  ·simp -implicitDefEqProofs [f67,h,h2]
  ·simp -implicitDefEqProofs [f67,h,h2]
 ·simp -implicitDefEqProofs [f67,h]
theorem gV (n:Nat)(k:Int):CL E0 (n+60) 69 [.d (.v (.int .i64 k))] []=some (.d (.v (.bool (!single k))),none):=by
 have h:=fun m=>yx m k
 rw[ah rfl (k69:E0.fn _=_) rfl];generalize single k=b at*;simp -implicitDefEqProofs [f69,h]
theorem Aw (n:Nat)(x y:Int):CL E0 (n+300) 68 [.d (.s 1 (LK .i64 [x,y])),.d (.fn 69)] []=some (.d (.v (.bool (!(single x&&single y)))),none):=by
 have h1:=fun m=>gV m x
 have h2:=fun m=>gV m y
 have w1:af .i64 1=1:=wrap_i64 (by omega);have w2:af .i64 2=2:=wrap_i64 (by omega);have hi:∃ v:Int,(decide (0<=v) = !(single x&&single y))/\∀ m,CL E0 (m+200) 100 [.d (.s 1 (LK .i64 [x,y])),.d (.fn 69)] []=some (.d (.v (.int .i64 v)),none):=by
  cases hx:single x
  ·refine⟨0,rfl,fun m => ?_⟩;rw[hx]at h1;rw[ah rfl (k100:E0.fn _=_) rfl];simp only[LK,List.map_cons,List.map_nil];simp -implicitDefEqProofs [f100,aA,w1,w2,h1]
  ·cases hy:single y
   ·refine⟨1,rfl,fun m => ?_⟩;rw[hx]at h1;rw[hy]at h2;rw[ah rfl (k100:E0.fn _=_) rfl];simp only[LK,List.map_cons,List.map_nil];simp -implicitDefEqProofs [f100,aA,w1,w2,h1,h2]
   ·refine⟨-1,rfl,fun m => ?_⟩;rw[hx]at h1;rw[hy]at h2;rw[ah rfl (k100:E0.fn _=_) rfl];simp only[LK,List.map_cons,List.map_nil];simp -implicitDefEqProofs [f100,aA,w1,w2,h1,h2]
 obtain⟨v,hv,hi⟩:=hi;rw[ah rfl (k68:E0.fn _=_) rfl];rw[<-hv];generalize LK .i64 [x,y]=l at*;simp -implicitDefEqProofs [f68,hi]
theorem Ay (n:Nat)(x y z:Int):CL E0 (n+300) 68 [.d (.s 1 (LK .i64 [x,y,z])),.d (.fn 69)] []=some (.d (.v (.bool (!(single x&&(single y&&single z))))),none):=by
 have h1:=fun m=>gV m x
 have h2:=fun m=>gV m y
 have h3:=fun m=>gV m z
 have w1:af .i64 1=1:=wrap_i64 (by omega);have w2:af .i64 2=2:=wrap_i64 (by omega);have w3:af .i64 3=3:=wrap_i64 (by omega);have hi:∃ v:Int,(decide (0<=v) = !(single x&&(single y&&single z)))/\∀ m,CL E0 (m+200) 100 [.d (.s 1 (LK .i64 [x,y,z])),.d (.fn 69)] []=some (.d (.v (.int .i64 v)),none):=by
  cases hx:single x
  ·refine⟨0,rfl,fun m => ?_⟩;rw[hx]at h1;rw[ah rfl (k100:E0.fn _=_) rfl];simp only[LK,List.map_cons,List.map_nil];simp -implicitDefEqProofs [f100,aA,w1,w2,h1]
  ·cases hy:single y
   ·refine⟨1,rfl,fun m => ?_⟩;rw[hx]at h1;rw[hy]at h2;rw[ah rfl (k100:E0.fn _=_) rfl];simp only[LK,List.map_cons,List.map_nil];simp -implicitDefEqProofs [f100,aA,w1,w2,h1,h2]
   ·cases hz:single z
    ·refine⟨2,rfl,fun m => ?_⟩;rw[hx]at h1;rw[hy]at h2;rw[hz]at h3;rw[ah rfl (k100:E0.fn _=_) rfl];simp only[LK,List.map_cons,List.map_nil];simp -implicitDefEqProofs [f100,aA,w1,w2,w3,h1,h2,h3]
    ·refine⟨-1,rfl,fun m => ?_⟩;rw[hx]at h1;rw[hy]at h2;rw[hz]at h3;rw[ah rfl (k100:E0.fn _=_) rfl];simp only[LK,List.map_cons,List.map_nil];simp -implicitDefEqProofs [f100,aA,w1,w2,w3,h1,h2,h3]
 obtain⟨v,hv,hi⟩:=hi;rw[ah rfl (k68:E0.fn _=_) rfl];rw[<-hv];generalize LK .i64 [x,y,z]=l at*;simp -implicitDefEqProofs [f68,hi]
theorem nu (n:Nat)(k:Int)(ps:List Int):CL E0 (n+500) 31 [.d (aT k ps)] []=some (.d (.v (.bool (aH k ps))),none):=by
 have hs:=fun m=>yx m k
 rw[ah rfl (k31:E0.fn _=_) rfl];unfold aH aT
 by_cases hk:k=6
 ·subst hk;rw[if_neg (by simp)]
  match ps with
  | []=>simp -implicitDefEqProofs [f31,LK]
  | [x]=>simp -implicitDefEqProofs [f31,LK]
  | [x,y] =>
   have h:=fun m=>Aw m x y
   simp only[LK,List.map_cons,List.map_nil]at h;simp -implicitDefEqProofs [f31,LK,h]
  | [x,y,z] =>
   have h:=fun m=>Ay m x y z
   simp only[LK,List.map_cons,List.map_nil]at h;simp -implicitDefEqProofs [f31,LK,h]
  | x::y::z::w::r =>
   have h2:(2:Int)<=(r.length:Int)+1+1+1+1:=by omega
   have h3:¬ (r.length:Int)+1+1+1+1<=3:=by omega
   simp -implicitDefEqProofs [f31,LK,h2,h3]
 ·rw[if_pos hk];have hne:(k != 6)=true:=by simpa using hk
  cases hb:single k
  ·rw[hb]at hs;generalize LK .i64 ps=l at*;simp -implicitDefEqProofs [f31,hne,hs]
  ·rw[hb]at hs;cases ps with
   | nil=>simp -implicitDefEqProofs [f31,LK,hne,hs]
   | cons x r =>
    have h0:(((r.length:Int)+1)==0)=false:=by simp;omega
    simp -implicitDefEqProofs [f31,LK,hne,hs,h0]
theorem iI (x:Int):(single x=true/\¬ x<1/\¬ 5<x)\/(single x=false/\x<1)\/(single x=false/\¬ x<1/\5<x):=by
 unfold single
 by_cases h1:x<1
 ·have:¬ 1<=x:=by omega
  simp[this,h1]
 ·by_cases h2:5<x
  ·have:¬ x<=5:=by omega
   simp[this,h1,h2]
  ·have a1:1<=x:=by omega
   have a2:x<=5:=by omega
   simp[a1,a2]
theorem bG (n:Nat)(k:Int)(ps:List Int):CL E0 (n+500) 28 [.d (aT k ps)] []=some (.d (.v (.bool (aH k ps))),none):=by
 rw[ah rfl (k28:E0.fn _=_) rfl];have w1:af .i64 1=1:=wrap_i64 (by omega);have w2:af .i64 2=2:=wrap_i64 (by omega);have w3:af .i64 3=3:=wrap_i64 (by omega);unfold aH aT
 by_cases hk:k=6
 ·subst hk;rw[if_neg (by simp)]
  match ps with
  | []=>simp -implicitDefEqProofs [f28,LK]
  | [x]=>simp -implicitDefEqProofs [f28,LK]
  | [x,y] =>
   rcases iI x with ⟨a,a1,a2⟩|⟨a,a1⟩|⟨a,a1,a2⟩
   ·rcases iI y with ⟨b,b1,b2⟩|⟨b,b1⟩|⟨b,b1,b2⟩
    ·simp -implicitDefEqProofs [f28,aA,LK,w1,w2,a,a1,a2,b,b1,b2]
    ·simp -implicitDefEqProofs [f28,aA,LK,w1,w2,a,a1,a2,b,b1]
    ·simp -implicitDefEqProofs [f28,aA,LK,w1,w2,a,a1,a2,b,b1,b2]
   ·simp -implicitDefEqProofs [f28,aA,LK,w1,w2,a,a1]
   ·simp -implicitDefEqProofs [f28,aA,LK,w1,w2,a,a1,a2]
  | [x,y,z] =>
   rcases iI x with ⟨a,a1,a2⟩|⟨a,a1⟩|⟨a,a1,a2⟩
   ·rcases iI y with ⟨b,b1,b2⟩|⟨b,b1⟩|⟨b,b1,b2⟩
    ·rcases iI z with ⟨c,c1,c2⟩|⟨c,c1⟩|⟨c,c1,c2⟩
     ·simp -implicitDefEqProofs [f28,aA,LK,w1,w2,w3,a,a1,a2,b,b1,b2,c,c1,c2]
     ·simp -implicitDefEqProofs [f28,aA,LK,w1,w2,w3,a,a1,a2,b,b1,b2,c,c1]
     ·simp -implicitDefEqProofs [f28,aA,LK,w1,w2,w3,a,a1,a2,b,b1,b2,c,c1,c2]
    ·simp -implicitDefEqProofs [f28,aA,LK,w1,w2,a,a1,a2,b,b1]
    ·simp -implicitDefEqProofs [f28,aA,LK,w1,w2,a,a1,a2,b,b1,b2]
   ·simp -implicitDefEqProofs [f28,aA,LK,w1,w2,a,a1]
   ·simp -implicitDefEqProofs [f28,aA,LK,w1,w2,a,a1,a2]
  | x::y::z::w::r =>
   have h2:¬ (r.length:Int)+1+1+1+1<2:=by omega
   have h3:(3:Int)<(r.length:Int)+1+1+1+1:=by omega
   simp -implicitDefEqProofs [f28,LK,h2,h3]
 ·rw[if_pos hk];have hne:(k != 6)=true:=by simpa using hk
  unfold single
  by_cases b1:1<=k
  ·by_cases b2:k<=5
   ·cases ps with
    | nil=>simp -implicitDefEqProofs [f28,LK,hne,b1,b2]
    | cons x r =>
     have h0:(((r.length:Int)+1)==0)=false:=by simp;omega
     simp -implicitDefEqProofs [f28,LK,hne,b1,b2,h0]
   ·generalize LK .i64 ps=l at*;simp -implicitDefEqProofs [f28,hne,b1,b2]
  ·generalize LK .i64 ps=l at*;simp -implicitDefEqProofs [f28,hne,b1]
end Fi.S

namespace Fi.S
open Go Fi
set_option maxHeartbeats 8000000
set_option maxRecDepth 4000
def q0 (s:Bool)(a b:List Nat):Bool := !s&&decide (a=[])&&decide (b=[])
def dN (k:Int):W->Bool
 | .mk s a b c i u p ps =>
  if k=1 then di s a b&&((c==0) && !i&&(u==0)&&p.isEmpty&&ps.isEmpty)
  else if k=2 then(decide (0<=c)&&decide (c<=1099511627776)&&(!i||(c==0)))&&(q0 s a b&&(u==0)&&p.isEmpty&&ps.isEmpty)
  else if k=3 then(di s a b&&((c==0) && !i&&(u==0)&&p.isEmpty&&ps.isEmpty))&&decide (0<=(bD s a b).num.sign) && !decide ((1:Rat)<bD s a b)
  else if k=4 then q0 s a b&&(c==0) && !i&&p.isEmpty&&ps.isEmpty
  else sJ none p&&(q0 s a b&&(c==0) && !i&&(u==0)&&ps.isEmpty)
theorem xx {α:Type}(eq:α->α->Bool)(l:List α):jW eq l []=l.isEmpty:=by cases l<;>rfl
theorem xz (l:List W):W.eqs l []=l.isEmpty:=by cases l<;>rfl
theorem yz {α:Type}{eq:α->α->Bool}(h:∀ x,eq x x=true):∀ l:List α,jW eq l l=true
 | []=>rfl
 | x::r=>by simp[jW,h x,yz h r]
theorem Bj (m:Mo):m.eq m=true:=by simp[Mo.eq]
theorem tH (s:Bool)(a b:List Nat):(s==false&&decide (a=[])&&decide (b=[]))=q0 s a b:=by cases s<;>rfl
theorem xA (s:Bool)(a b:List Nat)(c:Int)(i:Bool)(u:Int)(p:List Mo)(ha:bF a)(hb:bF b)(la:a.length<=100000)(lb:b.length<=100000)(hp:Po p):(W.mk s a b c i u p []).OK :=
 .mk ha hb la lb hp (by simp) (fun w hw=>by cases hw)
theorem jv:bF []:=fun x hx=>by cases hx
theorem yA:Po []:=⟨(fun m hm=>by cases hm),by simp⟩
theorem JF (w:W)(hw:w.OK):Ca E0 108 [.d w.d] (.d (.v (.bool (dN 1 w))),none):=by
 cases hw with
 | @mk s a b c i u p ps ha hb la lb hp lp h =>
  obtain⟨Kq,_,t1,t2⟩:=((uS s a b (by omega) (by omega) ha hb).j ((oO _ (.mk (c:=c) (i:=i) (u:=u) (s:=s) ha hb la lb hp lp h) _ (xA s a b 0 false 0 [] ha hb la lb yA)).any)).at 0;generalize Kq=N at*;have e:W.eq (.mk s a b c i u p ps) (.mk s a b 0 false 0 [] [])=((c==0) && !i&&(u==0)&&p.isEmpty&&ps.isEmpty):=by
   simp only[W.eq,xx,xz];cases i<;>simp
  rw[e]at t2;refine Ca.a_ (n:=N+90) ?_;rw[ah rfl (k108:E0.fn _=_) rfl];rw[dN];rw[if_pos rfl];generalize ((c==0) && !i&&(u==0)&&p.isEmpty&&ps.isEmpty)=r2,di s a b=r1 at*;simp only[W.d,W.ds,PD,raw,LD]at*;generalize LL a=x1,LL b=x2,W.ds ps=x4 at*;simp only[List.map_nil]at*;generalize List.map Mo.d p=x3 at*;cases r1
  ·simp -implicitDefEqProofs [f108,t1]
  ·simp -implicitDefEqProofs [f108,t1,t2]
theorem SX (w:W)(hw:w.OK):Ca E0 122 [.d w.d] (.d (.v (.bool (dN 2 w))),none):=by
 cases hw with
 | @mk s a b c i u p ps ha hb la lb hp lp h =>
  obtain⟨N,t2⟩:=(oO _ (.mk (c:=c) (i:=i) (u:=u) (s:=s) ha hb la lb hp lp h) _ (xA false [] [] c i 0 [] jv jv (by simp) (by simp) yA)).get;have e:W.eq (.mk s a b c i u p ps) (.mk false [] [] c i 0 [] [])=(q0 s a b&&(u==0)&&p.isEmpty&&ps.isEmpty):=by
   simp only[W.eq,xx,xz,tH];simp
  rw[e]at t2;refine Ca.a_ (n:=N+90) ?_;rw[ah rfl (k122:E0.fn _=_) rfl];rw[dN];rw[if_neg (by omega),if_pos rfl];generalize (q0 s a b&&(u==0)&&p.isEmpty&&ps.isEmpty)=r2 at*;simp only[W.d,W.ds,PD,LD]at*;generalize LL a=x1,LL b=x2,W.ds ps=x4 at*;simp only[List.map_nil,LL]at*;generalize List.map Mo.d p=x3 at*
  by_cases h1:0<=c
  ·by_cases h2:c<=1099511627776
   ·cases i
    ·simp -implicitDefEqProofs [f122,t2,h1,h2]
    ·cases h3:(c==0)
     ·simp -implicitDefEqProofs [f122,t2,h1,h2,h3]
     ·simp -implicitDefEqProofs [f122,t2,h1,h2,h3]
   ·simp -implicitDefEqProofs [f122,h1,h2]
  ·simp -implicitDefEqProofs [f122,h1]
theorem SY (w:W)(hw:w.OK):Ca E0 139 [.d w.d] (.d (.v (.bool (dN 4 w))),none):=by
 cases hw with
 | @mk s a b c i u p ps ha hb la lb hp lp h =>
  obtain⟨N,t2⟩:=(oO _ (.mk (c:=c) (i:=i) (u:=u) (s:=s) ha hb la lb hp lp h) _ (xA false [] [] 0 false u [] jv jv (by simp) (by simp) yA)).get;have e:W.eq (.mk s a b c i u p ps) (.mk false [] [] 0 false u [] [])=(q0 s a b&&(c==0) && !i&&p.isEmpty&&ps.isEmpty):=by
   simp only[W.eq,xx,xz,tH];cases i<;>simp
  rw[e]at t2;refine Ca.a_ (n:=N+90) ?_;rw[ah rfl (k139:E0.fn _=_) rfl];rw[dN];rw[if_neg (by omega),if_neg (by omega),if_neg (by omega),if_pos rfl];generalize (q0 s a b&&(c==0) && !i&&p.isEmpty&&ps.isEmpty)=r2 at*;simp only[W.d,W.ds,PD,LD]at*;generalize LL a=x1,LL b=x2,W.ds ps=x4 at*;simp only[List.map_nil,LL]at*;generalize List.map Mo.d p=x3 at*;simp -implicitDefEqProofs [f139,t2]
theorem S9 (w:W)(hw:w.OK):Ca E0 149 [.d w.d] (.d (.v (.bool (dN 5 w))),none):=by
 cases hw with
 | @mk s a b c i u p ps ha hb la lb hp lp h =>
  obtain⟨Kq,_,t1,t2⟩:=((Bg p hp).j ((oO _ (.mk (c:=c) (i:=i) (u:=u) (s:=s) ha hb la lb hp lp h) _ (xA false [] [] 0 false 0 p jv jv (by simp) (by simp) hp)).any)).at 0;generalize Kq=N at*;have e:W.eq (.mk s a b c i u p ps) (.mk false [] [] 0 false 0 p [])=(q0 s a b&&(c==0) && !i&&(u==0)&&ps.isEmpty):=by
   simp only[W.eq,yz Bj,xz,tH];cases i<;>simp
  rw[e]at t2;refine Ca.a_ (n:=N+90) ?_;rw[ah rfl (k149:E0.fn _=_) rfl];rw[dN];rw[if_neg (by omega),if_neg (by omega),if_neg (by omega),if_neg (by omega)];generalize (q0 s a b&&(c==0) && !i&&(u==0)&&ps.isEmpty)=r2,sJ none p=r1 at*;simp only[W.d,W.ds,PD,LD]at*;generalize LL a=x1,LL b=x2,W.ds ps=x4 at*;simp only[List.map_nil,LL]at*;generalize List.map Mo.d p=x3 at*;cases r1
  ·simp -implicitDefEqProofs [f149,t1]
  ·simp -implicitDefEqProofs [f149,t1,t2]
def ll:D:=.a [(.fn 108),(.fn 110),(.fn 111),(.fn 113),(.fn 115),(.fn 117),(.fn 118),(.fn 119),(.fn 121)]
theorem Wo (n:Nat):CL E0 (n+40) 79 [] []=some (.d ll,none):=by
 rw[ah rfl (k79:E0.fn _=_) rfl];unfold ll;simp -implicitDefEqProofs [f79]
theorem Da:qD (1:Rat)=raw false [1] []:=by
 have h1:qs (1:Rat)=false:=by unfold qs;rfl
 have h2:qn (1:Rat)=[1]:=by
  have:(1:Rat).num.natAbs=1:=rfl;unfold qn;rw[this];exact xn.2 rfl
 have h3:qd (1:Rat)=[]:=by
  have:(1:Rat).den=1:=rfl;unfold qd;rw[if_pos this]
 rw[qD,h1,h2,h3]
theorem JG:x_ 1 1=1:=by rw[NZ _ _ (by omega)];simp;grind
def S_:D:=.a [.v (.bool false),.s 1 [.v (.int .u32 1)],.s 1 [],.v (.int .i64 0),.v (.bool false),.v (.int .u64 0),.s 6 [],.s 8 []]
theorem yB:Ca E0 112 [.d (.v (.int .i64 1))] (.d S_,none):=by
 obtain⟨N,t⟩:=(Jz 1 1 (by omega) (by omega) (by omega)).get;rw[JG,Da]at t;refine Ca.a_ (n:=N+80) ?_;rw[ah rfl (k112:E0.fn _=_) rfl];unfold S_;simp only[raw,LD,LL,List.map_cons,List.map_nil,Int.natCast_one]at t;simp -implicitDefEqProofs [f112,jb,t]
theorem jg:qz (1:Rat)<=1:=by
 have h1:(1:Rat).num.natAbs=1:=rfl;have h2:(1:Rat).den=1:=rfl;unfold qz;rw[h1,h2,GZ];omega
theorem Ta (w:W)(hw:w.OK):Ca E0 133 [.d w.d] (.d (.v (.bool (dN 3 w))),none):=by
 have hc1:=JF w hw;cases hw with
 | @mk s a b c i u p ps ha hb la lb hp lp h =>
  rw[dN,if_pos rfl]at hc1;rw[dN,if_neg (by omega),if_neg (by omega),if_pos rfl];have a79:=Wo;obtain⟨n1,t1⟩:=hc1.any;cases hv:di s a b
  ·rw[hv]at t1;simp only[Bool.false_and]at t1 ⊢;replace t1:=t1 n1 (by omega);refine Ca.a_ (n:=n1+90) ?_;rw[ah rfl (k133:E0.fn _=_) rfl];simp only[W.d,W.ds,PD,raw,LD,ll]at*;generalize LL a=x1,LL b=x2,W.ds ps=x4,List.map Mo.d p=x3 at*;simp -implicitDefEqProofs [f133,a79,t1]
  ·rw[hv]at t1;simp only[Bool.true_and]at t1 ⊢;have hq:=l9 ha hb hv;have hz:=kG ha hb 100000 la lb (by omega) hv;obtain⟨n2,t2⟩:=(sS (bD s a b) (by omega)).any;obtain⟨n3,t3⟩:=(jD (bD s a b) 1 (by omega) (by have:=jg;omega)).any;obtain⟨n4,t4⟩:=yB.any;rw[Da]at t3;rw[<-hq]at t2 t3;have e3:(!decide ((1:Rat)<bD s a b))=decide ((bD s a b-1).num.sign<=0):=by
    have:=(EJ (bD s a b) 1).2;rw[<-decide_not]
    congr 1
    rw[<-this];simp only[Int.not_lt]
   rw[e3];clear e3 hq hz;generalize (bD s a b-1).num.sign=g2,(bD s a b).num.sign=g1,((c==0) && !i&&(u==0)&&p.isEmpty&&ps.isEmpty)=r2 at*;replace t1:=t1 (n1+n2+n3+n4) (by omega);replace t2:=t2 (n1+n2+n3+n4) (by omega);replace t3:=t3 (n1+n2+n3+n4) (by omega);replace t4:=t4 (n1+n2+n3+n4) (by omega);generalize n1+n2+n3+n4=N at*;refine Ca.a_ (n:=N+90) ?_;rw[ah rfl (k133:E0.fn _=_) rfl];simp only[W.d,W.ds,PD,raw,LD,ll,S_]at*;simp only[LL,List.map_cons,List.map_nil,Int.natCast_one]at t3;simp only[<-show ∀ l:List Nat,LL l=List.map (fun(x:Nat)=>D.v (Value.int IntKind.u32 (x:Int))) l from fun _=>rfl]at t3;generalize LL a=x1,LL b=x2,W.ds ps=x4,List.map Mo.d p=x3 at*;cases r2
   ·simp -implicitDefEqProofs [f133,a79,t1]
   ·by_cases h1:0<=g1
    ·by_cases h2:g2<=0
     ·simp -implicitDefEqProofs [f133,a79,t1,t2,t3,t4,h1,h2]
     ·simp -implicitDefEqProofs [f133,a79,t1,t2,t3,t4,h1,h2]
    ·simp -implicitDefEqProofs [f133,a79,t1,t2,h1]
theorem ma (ps:List W):(ps.isEmpty=true/\(W.ds ps).length=0)\/(ps.isEmpty=false/\∃ m,(W.ds ps).length=m+1):=by
 cases ps with
 | nil=>exact .inl ⟨rfl,rfl⟩
 | cons x r=>exact .inr ⟨rfl,(W.ds r).length,by simp[W.ds]⟩
theorem oP (p:List Mo):(p.isEmpty=true/\(p.map Mo.d).length=0)\/(p.isEmpty=false/\∃ m,(p.map Mo.d).length=m+1):=by
 cases p with
 | nil=>exact .inl ⟨rfl,rfl⟩
 | cons x r=>exact .inr ⟨rfl,r.length,by simp⟩
theorem aS (m:Nat):(0:Int)<(m:Int)+1:=by omega
theorem Hq (w:W)(hw:w.OK):Ca E0 66 [.d (.v (.int .i64 1)),.d w.d] (.d (.v (.bool (dN 1 w))),none):=by
 cases hw with
 | @mk s a b c i u p ps ha hb la lb hp lp h =>
  have hps:=ma ps;have hpo:=oP p;obtain⟨n1,t1⟩:=(kI s false a b [] [] (by omega) (by omega) (by simp) (by simp)).any;rw[tH]at t1;rw[dN,if_pos rfl];obtain⟨n2,t2⟩:=(qg s a b (by omega) (by omega) ha hb).any;replace t1:=t1 (n1+n2) (by omega);replace t2:=t2 (n1+n2) (by omega);generalize n1+n2=N at*;refine Ca.a_ (n:=N+90) ?_;rw[ah rfl (k66:E0.fn _=_) rfl];generalize di s a b=r2,q0 s a b=nn at*;simp only[W.d,PD,raw,LD]at*;generalize LL a=x1,LL b=x2,W.ds ps=x4,List.map Mo.d p=x3,ps.isEmpty=be,p.isEmpty=bp at*;simp only[LL,List.map_nil]at t1;have e1:(c != 0) = !(c==0):=rfl;have e2:(u != 0) = !(u==0):=rfl;rcases hps with ⟨rfl,hps⟩|⟨rfl,m,hps⟩
  ·skip
   cases i
   ·cases h3:(c==0)
    ·rw[h3]at e1;simp -implicitDefEqProofs [f66,aS,t1,hps,e1]
    ·rw[h3]at e1;cases h4:(u==0)
     ·rw[h4]at e2;simp -implicitDefEqProofs [f66,aS,t1,hps,e1,e2]
     ·rw[h4]at e2;rcases hpo with ⟨rfl,hpo⟩|⟨rfl,m,hpo⟩
      ·skip
       simp -implicitDefEqProofs [f66,aS,t1,hps,e1,e2,hpo,t2]
      ·simp -implicitDefEqProofs [f66,aS,t1,hps,e1,e2,hpo]
   ·simp -implicitDefEqProofs [f66,aS,t1,hps]
  ·simp -implicitDefEqProofs [f66,aS,t1,hps]
theorem Hr (w:W)(hw:w.OK):Ca E0 66 [.d (.v (.int .i64 2)),.d w.d] (.d (.v (.bool (dN 2 w))),none):=by
 cases hw with
 | @mk s a b c i u p ps ha hb la lb hp lp h =>
  have hps:=ma ps;have hpo:=oP p;obtain⟨n1,t1⟩:=(kI s false a b [] [] (by omega) (by omega) (by simp) (by simp)).any;rw[tH]at t1;rw[dN,if_neg (by omega),if_pos rfl];replace t1:=t1 (n1) (by omega);replace t1:=t1;refine Ca.a_ (n:=n1+90) ?_;rw[ah rfl (k66:E0.fn _=_) rfl];generalize q0 s a b=nn at*;simp only[W.d,PD,raw,LD]at*;generalize LL a=x1,LL b=x2,W.ds ps=x4,List.map Mo.d p=x3,ps.isEmpty=be,p.isEmpty=bp at*;simp only[LL,List.map_nil]at t1;have e1:(c != 0) = !(c==0):=rfl;have e2:(u != 0) = !(u==0):=rfl;rcases hps with ⟨rfl,hps⟩|⟨rfl,m,hps⟩
  ·skip
   cases nn
   ·simp -implicitDefEqProofs [f66,aS,t1,hps]
   ·skip
    cases h4:(u==0)
    ·rw[h4]at e2;simp -implicitDefEqProofs [f66,aS,t1,hps,e2]
    ·rw[h4]at e2;rcases hpo with ⟨rfl,hpo⟩|⟨rfl,m,hpo⟩
     ·skip
      by_cases h1:0<=c
      ·by_cases h2:c<=1099511627776
       ·cases i
        ·simp -implicitDefEqProofs [f66,aS,t1,hps,e2,hpo,h1,h2]
        ·cases h3:(c==0)
         ·rw[h3]at e1;simp -implicitDefEqProofs [f66,aS,t1,hps,e2,hpo,h1,h2,e1]
         ·rw[h3]at e1;simp -implicitDefEqProofs [f66,aS,t1,hps,e2,hpo,h1,h2,e1]
       ·simp -implicitDefEqProofs [f66,aS,t1,hps,e2,hpo,h1,h2]
      ·simp -implicitDefEqProofs [f66,aS,t1,hps,e2,hpo,h1]
     ·simp -implicitDefEqProofs [f66,aS,t1,hps,e2,hpo]
  ·simp -implicitDefEqProofs [f66,aS,t1,hps]
theorem Ht (w:W)(hw:w.OK):Ca E0 66 [.d (.v (.int .i64 4)),.d w.d] (.d (.v (.bool (dN 4 w))),none):=by
 cases hw with
 | @mk s a b c i u p ps ha hb la lb hp lp h =>
  have hps:=ma ps;have hpo:=oP p;obtain⟨n1,t1⟩:=(kI s false a b [] [] (by omega) (by omega) (by simp) (by simp)).any;rw[tH]at t1;rw[dN,if_neg (by omega),if_neg (by omega),if_neg (by omega),if_pos rfl];replace t1:=t1 (n1) (by omega);replace t1:=t1;refine Ca.a_ (n:=n1+90) ?_;rw[ah rfl (k66:E0.fn _=_) rfl];generalize q0 s a b=nn at*;simp only[W.d,PD,raw,LD]at*;generalize LL a=x1,LL b=x2,W.ds ps=x4,List.map Mo.d p=x3,ps.isEmpty=be,p.isEmpty=bp at*;simp only[LL,List.map_nil]at t1;have e1:(c != 0) = !(c==0):=rfl;have e2:(u != 0) = !(u==0):=rfl;rcases hps with ⟨rfl,hps⟩|⟨rfl,m,hps⟩
  ·skip
   cases nn
   ·simp -implicitDefEqProofs [f66,aS,t1,hps]
   ·skip
    cases i
    ·cases h3:(c==0)
     ·rw[h3]at e1;simp -implicitDefEqProofs [f66,aS,t1,hps,e1]
     ·rw[h3]at e1;rcases hpo with ⟨rfl,hpo⟩|⟨rfl,m,hpo⟩
      ·skip
       simp -implicitDefEqProofs [f66,aS,t1,hps,e1,hpo]
      ·simp -implicitDefEqProofs [f66,aS,t1,hps,e1,hpo]
    ·simp -implicitDefEqProofs [f66,aS,t1,hps]
  ·simp -implicitDefEqProofs [f66,aS,t1,hps]
theorem Hu (w:W)(hw:w.OK):Ca E0 66 [.d (.v (.int .i64 5)),.d w.d] (.d (.v (.bool (dN 5 w))),none):=by
 cases hw with
 | @mk s a b c i u p ps ha hb la lb hp lp h =>
  have hps:=ma ps;have hpo:=oP p;obtain⟨n1,t1⟩:=(kI s false a b [] [] (by omega) (by omega) (by simp) (by simp)).any;rw[tH]at t1;rw[dN,if_neg (by omega),if_neg (by omega),if_neg (by omega),if_neg (by omega)];obtain⟨n2,t2⟩:=(Bh p hp).any;replace t1:=t1 (n1+n2) (by omega);replace t2:=t2 (n1+n2) (by omega);generalize n1+n2=N at*;refine Ca.a_ (n:=N+90) ?_;rw[ah rfl (k66:E0.fn _=_) rfl];generalize sJ none p=r2,q0 s a b=nn at*;simp only[W.d,PD,raw,LD]at*;generalize LL a=x1,LL b=x2,W.ds ps=x4,List.map Mo.d p=x3,ps.isEmpty=be,p.isEmpty=bp at*;simp only[LL,List.map_nil]at t1;have e1:(c != 0) = !(c==0):=rfl;have e2:(u != 0) = !(u==0):=rfl;rcases hps with ⟨rfl,hps⟩|⟨rfl,m,hps⟩
  ·skip
   cases nn
   ·simp -implicitDefEqProofs [f66,aS,t1,hps]
   ·skip
    cases i
    ·cases h3:(c==0)
     ·rw[h3]at e1;simp -implicitDefEqProofs [f66,aS,t1,hps,e1]
     ·rw[h3]at e1;cases h4:(u==0)
      ·rw[h4]at e2;simp -implicitDefEqProofs [f66,aS,t1,hps,e1,e2]
      ·rw[h4]at e2;simp -implicitDefEqProofs [f66,aS,t1,hps,e1,e2,t2]
    ·simp -implicitDefEqProofs [f66,aS,t1,hps]
  ·simp -implicitDefEqProofs [f66,aS,t1,hps]
theorem Hw (w:W)(hw:w.OK):Ca E0 66 [.d (.v (.int .i64 3)),.d w.d] (.d (.v (.bool (dN 3 w))),none):=by
 cases hw with
 | @mk s a b c i u p ps ha hb la lb hp lp h =>
  have hps:=ma ps;have hpo:=oP p;obtain⟨n1,t1⟩:=(kI s false a b [] [] (by omega) (by omega) (by simp) (by simp)).any;rw[tH]at t1;obtain⟨n2,t2⟩:=(qg s a b (by omega) (by omega) ha hb).any;rw[dN,if_neg (by omega),if_neg (by omega),if_pos rfl];obtain⟨n3,t3⟩:=(Om 1 1 (by omega) (by omega) (by omega)).any;rw[JG,Da]at t3;have hx:∃ n4,di s a b=true->(∀ n,n4<=n->∀ k,CL E0 (n+k) 98 [.d (raw s a b)] []=some (.d (.v (.int .i64 (bD s a b).num.sign)),none)) /\
    (∀ n,n4<=n->∀ k,CL E0 (n+k) 55 [.d (raw false [1] []),.d (raw s a b)] []=some (.d (.v (.bool (decide ((1:Rat)<bD s a b)))),none)):=by
   cases hv:di s a b
   ·exact⟨0,fun h=>by cases h⟩
   ·have hq:=l9 ha hb hv;have hz:=kG ha hb 100000 la lb (by omega) hv;obtain⟨m1,s1⟩:=(kH (bD s a b) (by omega)).any;obtain⟨m2,s2⟩:=(l_ 1 (bD s a b) (by have:=jg;omega) (by omega)).any;rw[<-hq]at s1 s2;rw[Da]at s2;exact⟨m1+m2,fun _=>⟨fun n hn k=>s1 n (by omega) k,fun n hn k=>s2 n (by omega) k⟩⟩
  obtain⟨n4,hx⟩:=hx;replace t1:=t1 (n1+n2+n3+n4) (by omega);replace t2:=t2 (n1+n2+n3+n4) (by omega);replace t3:=t3 (n1+n2+n3+n4) (by omega);have hx':di s a b=true->(∀ k,CL E0 (n1+n2+n3+n4+k) 98 [.d (raw s a b)] []=some (.d (.v (.int .i64 (bD s a b).num.sign)),none)) /\
    (∀ k,CL E0 (n1+n2+n3+n4+k) 55 [.d (raw false [1] []),.d (raw s a b)] []=some (.d (.v (.bool (decide ((1:Rat)<bD s a b)))),none)):=fun hv=>⟨(hx hv).1 _ (by omega),(hx hv).2 _ (by omega)⟩
  clear hx;generalize n1+n2+n3+n4=N at*;refine Ca.a_ (n:=N+90) ?_;rw[ah rfl (k66:E0.fn _=_) rfl];generalize di s a b=r2,q0 s a b=nn,(bD s a b).num.sign=g1 at*;generalize decide ((1:Rat)<bD s a b)=g2 at*;simp only[W.d,PD,raw,LD]at*;have e11:LL [1]=[D.v (.int .u32 1)]:=rfl;have e12:LL []=[]:=rfl;simp only[e11,e12]at t1 t3 hx';generalize LL a=x1,LL b=x2,W.ds ps=x4,List.map Mo.d p=x3,ps.isEmpty=be,p.isEmpty=bp at*;have e1:(c != 0) = !(c==0):=rfl;have e2:(u != 0) = !(u==0):=rfl;rcases hps with ⟨rfl,hps⟩|⟨rfl,m,hps⟩
  ·cases i
   ·cases h3:(c==0)
    ·rw[h3]at e1;simp -implicitDefEqProofs [f66,aS,t1,hps,e1]
    ·rw[h3]at e1;cases h4:(u==0)
     ·rw[h4]at e2;simp -implicitDefEqProofs [f66,aS,t1,hps,e1,e2]
     ·rw[h4]at e2;rcases hpo with ⟨rfl,hpo⟩|⟨rfl,m,hpo⟩
      ·cases r2
       ·simp -implicitDefEqProofs [f66,aS,t1,hps,e1,e2,hpo,t2]
       ·obtain⟨hx1,hx2⟩:=hx' rfl
        by_cases hg:0<=g1
        ·cases g2
         ·simp -implicitDefEqProofs [f66,aS,t1,hps,e1,e2,hpo,t2,t3,hx1,hx2,hg]
         ·simp -implicitDefEqProofs [f66,aS,t1,hps,e1,e2,hpo,t2,t3,hx1,hx2,hg]
        ·simp -implicitDefEqProofs [f66,aS,t1,hps,e1,e2,hpo,t2,hx1,hg]
      ·simp -implicitDefEqProofs [f66,aS,t1,hps,e1,e2,hpo]
   ·simp -implicitDefEqProofs [f66,aS,t1,hps]
  ·simp -implicitDefEqProofs [f66,aS,t1,hps]
theorem Bl (k:Int)(hk:single k=true)(w:W)(hw:w.OK):Ca E0 66 [.d (.v (.int .i64 k)),.d w.d] (.d (.v (.bool (dN k w))),none):=by
 have:k=1\/k=2\/k=3\/k=4\/k=5:=by
  simp only[single,Bool.and_eq_true,decide_eq_true_eq]at hk;omega
 rcases this with rfl|rfl|rfl|rfl|rfl
 ·exact Hq w hw
 ·exact Hr w hw
 ·exact Hw w hw
 ·exact Ht w hw
 ·exact Hu w hw
def eP:FV:=.d (.a [(.fn 149),(.fn 151),(.fn 152),(.fn 154),(.fn 156),(.fn 158),(.fn 118),(.fn 160),(.fn 163)])
def eQ:FV:=.d ll
def fA:List FV:=[(.d (.fn 122)),(.d (.fn 123)),(.d (.fn 124)),(.d (.fn 125)),(.d (.fn 127)),(.f 195 [] [(.r (.old 3) 0)]),(.d (.fn 126)),(.d (.fn 128)),(.f 131 [] [(.r (.old 2) 0)])]
def gz:FV:=.a fA
def fT:List ae:=[.box fA,.box fA,.box fA,.box [(.d (.fn 124))]]
def fB:List FV:=[(.d (.fn 133)),(.d (.fn 110)),(.d (.fn 111)),(.f 137 [] [(.r (.old 2) 0)]),(.d (.fn 115)),(.f 195 [] [(.r (.old 3) 0)]),(.d (.fn 136)),(.d (.fn 119)),(.f 138 [] [(.r (.old 2) 0)])]
def gB:FV:=.a fB
def fU:List ae:=[.box fB,.box fB,.box fB,.box [(.d (.fn 111))]]
def fC:List FV:=[(.d (.fn 139)),(.d (.fn 140)),(.d (.fn 141)),(.d (.fn 142)),(.d (.fn 143)),(.f 195 [] [(.r (.old 3) 0)]),(.d (.fn 118)),(.d (.fn 144)),(.f 147 [] [(.r (.old 2) 0)])]
def gD:FV:=.a fC
def fV:List ae:=[.box fC,.box fC,.box fC,.box [(.d (.fn 141))]]
theorem yC:bX E0 60 42 [.d (.v (.int .i64 1))] []=some (eQ,none):=by kernel_rfl
theorem yD:bX E0 60 42 [.d (.v (.int .i64 5))] []=some (eP,none):=by kernel_rfl
theorem yE:bX E0 60 42 [.d (.v (.int .i64 2))] []=some (gz,some fT):=by kernel_rfl
theorem yF:bX E0 60 42 [.d (.v (.int .i64 3))] []=some (gB,some fU):=by kernel_rfl
theorem yG:bX E0 60 42 [.d (.v (.int .i64 4))] []=some (gD,some fV):=by kernel_rfl
theorem qU {N g:Nat}{args:List FV}{r:FV × Option (List ae)}(h:bX E0 N g args []=some r)(m:Nat)(hm:N<=m):CL E0 m g args []=some r:=by rw[nW];exact qi h hm
def yH (k:Int):Nat:=if k=1 then 108 else if k=2 then 122 else if k=3 then 133 else if k=4 then 139 else 149
theorem aM {k:Int}(hk:single k=true):k=1\/k=2\/k=3\/k=4\/k=5:=by
 simp only[single,Bool.and_eq_true,decide_eq_true_eq]at hk;omega
theorem OG (k:Int)(hk:single k=true)(w:W)(hw:w.OK):Ca E0 (yH k) [.d w.d] (.d (.v (.bool (dN k w))),none):=by
 rcases aM hk with rfl|rfl|rfl|rfl|rfl
 ·exact JF w hw
 ·exact SX w hw
 ·exact Ta w hw
 ·exact SY w hw
 ·exact S9 w hw
def W.ps:W->List W
 | .mk _ _ _ _ _ _ _ ps=>ps
def W.bare:W->Bool
 | .mk s a b c i u p _=>q0 s a b&&(c==0) && !i&&(u==0)&&p.isEmpty
def oq:List Int->List W->Bool
 | k::r,w::s=>dN k w&&oq r s
 | _,_=>true
def iJ (k:Int)(ps:List Int)(w:W):Bool:=aH k ps&&(if k≠6 then dN k w else(w.ps.length==ps.length)&&w.bare&&oq ps w.ps)
mutual
theorem W.JH:∀ w:W,w.eq w=true
 | .mk s a b c i u p ps=>by
  simp only[W.eq,yz Bj,W.tJ ps];simp
theorem W.tJ:∀ l:List W,W.eqs l l=true
 | []=>rfl
 | w::r=>by simp[W.eqs,W.JH w,W.tJ r]
end
theorem eq_bare (s:Bool)(a b:List Nat)(c:Int)(i:Bool)(u:Int)(p:List Mo)(ps:List W):W.eq (.mk s a b c i u p ps) (.mk false [] [] 0 false 0 [] ps)=W.bare (.mk s a b c i u p ps):=by
 simp only[W.eq,xx,W.tJ,tH,W.bare];cases i<;>simp
theorem OH (s:Bool)(a b:List Nat)(c:Int)(i:Bool)(u:Int)(p:List Mo)(ps:List W):W.eq (.mk false [] [] 0 false 0 [] ps) (.mk s a b c i u p ps)=W.bare (.mk s a b c i u p ps):=by
 have e1:(false==s&&decide ([]=a)&&decide ([]=b))=q0 s a b:=by
  unfold q0;have h1:decide (([]:List Nat)=a)=decide (a=[]):=by congr 1;exact propext ⟨fun h=>h.symm,fun h=>h.symm⟩
  have h2:decide (([]:List Nat)=b)=decide (b=[]):=by congr 1;exact propext ⟨fun h=>h.symm,fun h=>h.symm⟩
  rw[h1,h2];cases s<;>rfl
 have e2:∀ l:List Mo,jW Mo.eq [] l=l.isEmpty:=by intro l;cases l<;>rfl
 have e3:∀ x:Int,((0:Int)==x)=(x==0):=by
  intro x
  by_cases h:x=0
  ·rw[h]
  ·rw[beq_eq_false_iff_ne.2 h,beq_eq_false_iff_ne.2 (Ne.symm h)]
 simp only[W.eq,e1,e2,e3,W.tJ,W.bare];cases i<;>simp
def Hy:aD:=f18.body.r.r.r.r.l.r.bl.lp
def Rt (rb:ae)(wb:List FV)(ks:List Int)(j:Nat)(bs:List ae)(t:FV):St:=(st0 [.u,.u,.u,.r (.loc 1) 0,.u,.u,.u,.u,.u,.u,.d (.s 1 (LK .i64 ks)),.d (.v (.int .i64 ks.length)),.d (.v (.int .i64 j)),t,.u] (rb::.box wb::bs))
def Zh (rb:ae)(wb:List FV)(bs:List ae):St:=(st0 [.u,.u,.u,.u,.d (.v (.bool false)),.u,.u,.u,.u,.u,.u,.u,.u,.u,.u] (rb::.box wb::bs))
theorem OI (rb:ae)(p1 p2 p3 p4 p5 p6 p7:D)(ws:List W)(ks:List Int)(j:Nat)(bs:List ae)(k:Int)(w:W)(hl:ks.length<=100000000)(hk:ks[j]?=some k)(hw:ws[j]?=some w)(hs:single k=true)(ok:w.OK) :
  ∃ bs',Ex E0 Hy (Rt rb [.d p1,.d p2,.d p3,.d p4,.d p5,.d p6,.d p7,.d (.s 8 (W.ds ws))] ks j bs .u)
   (if dN k w then(.norm,Rt rb [.d p1,.d p2,.d p3,.d p4,.d p5,.d p6,.d p7,.d (.s 8 (W.ds ws))] ks (j+1) bs' .u) else(.ret,Zh rb [.d p1,.d p2,.d p3,.d p4,.d p5,.d p6,.d p7,.d (.s 8 (W.ds ws))] bs')):=by
 have hj:=(bE hk)
 have hj2:=(bE hw)
 obtain⟨n1,t1⟩:=(OG k hs w ok).any;replace t1:=t1 (n1+60) (by omega);have n1':(LK .i64 ks).length=ks.length:=by simp[LK]
 have KW:(W.ds ws).length=ws.length:=by simp[W.dM]
 have e1:(LK .i64 ks)[j]?=some (.v (.int .i64 k)):=by simp[LK,hk]
 have e2:(W.ds ws)[j]?=some w.d:=by simp[W.dM,hw]
 have bg:af .i64 ((j:Int)+1)=(j:Int)+1:=wrap_i64 (by omega);have hk1:((j+1:Nat):Int)=(j:Int)+1:=by omega
 have hk0:(0:Int)<=(j:Int):=by omega
 obtain⟨vv,hvv⟩:∃ vv,dN k w=vv:=⟨_,rfl⟩
 rw[hvv]at t1 ⊢;obtain⟨sx,ax,bx,cx,ix,ux,px,D_⟩:=w;simp only[W.d,PD,LD]at*;generalize LL ax=x1,LL bx=x2,List.map Mo.d px=x5,W.ds D_=x7 at*;unfold Rt Zh;rw[hk1];generalize W.ds ws=es2 at*;have i2:=idx e2;have five:=aM hs;clear hs ok hvv hw;rcases five with rfl|rfl|rfl|rfl|rfl
 ·have t2:=fun m=>qU yC (n1+60+m) (by omega)
  have hF:yH 1=108:=rfl;rw[hF]at t1;clear hk;generalize LK .i64 ks=es1 at*;have i1:=idx e1;generalize n1+60=N at*;refine⟨bs,Ex.of (n:=N+300) ?_⟩;simp only[eQ,ll]at t2 ⊢;cases vv
  ·simp -implicitDefEqProofs [Hy,f18,hj,hj2,hk0,e1,e2,i1,i2,n1',KW,t1,t2]
  ·simp -implicitDefEqProofs [Hy,f18,hj,hj2,hk0,e1,e2,i1,i2,n1',KW,t1,t2,bg]
 ·have t2:=fun m=>qU yE (n1+60+m) (by omega)
  have hF:yH 2=122:=rfl;rw[hF]at t1;clear hk;generalize LK .i64 ks=es1 at*;have i1:=idx e1;generalize n1+60=N at*;refine⟨bs++fT.map (ae.shift (bs.length+2)),Ex.of (n:=N+300) ?_⟩;simp only[gz,fA,fT]at t2 ⊢;cases vv
  ·simp -implicitDefEqProofs [Hy,f18,hj,hj2,hk0,e1,e2,i1,i2,n1',KW,t1,t2]
  ·simp -implicitDefEqProofs [Hy,f18,hj,hj2,hk0,e1,e2,i1,i2,n1',KW,t1,t2,bg]
 ·have t2:=fun m=>qU yF (n1+60+m) (by omega)
  have hF:yH 3=133:=rfl;rw[hF]at t1;clear hk;generalize LK .i64 ks=es1 at*;have i1:=idx e1;generalize n1+60=N at*;refine⟨bs++fU.map (ae.shift (bs.length+2)),Ex.of (n:=N+300) ?_⟩;simp only[gB,fB,fU]at t2 ⊢;cases vv
  ·simp -implicitDefEqProofs [Hy,f18,hj,hj2,hk0,e1,e2,i1,i2,n1',KW,t1,t2]
  ·simp -implicitDefEqProofs [Hy,f18,hj,hj2,hk0,e1,e2,i1,i2,n1',KW,t1,t2,bg]
 ·have t2:=fun m=>qU yG (n1+60+m) (by omega)
  have hF:yH 4=139:=rfl;rw[hF]at t1;clear hk;generalize LK .i64 ks=es1 at*;have i1:=idx e1;generalize n1+60=N at*;refine⟨bs++fV.map (ae.shift (bs.length+2)),Ex.of (n:=N+300) ?_⟩;simp only[gD,fC,fV]at t2 ⊢;cases vv
  ·simp -implicitDefEqProofs [Hy,f18,hj,hj2,hk0,e1,e2,i1,i2,n1',KW,t1,t2]
  ·simp -implicitDefEqProofs [Hy,f18,hj,hj2,hk0,e1,e2,i1,i2,n1',KW,t1,t2,bg]
 ·have t2:=fun m=>qU yD (n1+60+m) (by omega)
  have hF:yH 5=149:=rfl;rw[hF]at t1;clear hk;generalize LK .i64 ks=es1 at*;have i1:=idx e1;generalize n1+60=N at*;refine⟨bs,Ex.of (n:=N+300) ?_⟩;simp only[eP]at t2 ⊢;cases vv
  ·simp -implicitDefEqProofs [Hy,f18,hj,hj2,hk0,e1,e2,i1,i2,n1',KW,t1,t2]
  ·simp -implicitDefEqProofs [Hy,f18,hj,hj2,hk0,e1,e2,i1,i2,n1',KW,t1,t2,bg]
theorem Tc (rb:ae)(p1 p2 p3 p4 p5 p6 p7:D)(ws:List W)(ks:List Int)(hl:ks.length<=100000000)(he:ws.length=ks.length)(hs:ks.all single=true)(ok:∀ w ∈ ws,w.OK) :
  ∃ r,Ex E0 (.loop Hy) (Rt rb [.d p1,.d p2,.d p3,.d p4,.d p5,.d p6,.d p7,.d (.s 8 (W.ds ws))] ks 0 [] .u) r /\
   ((oq ks ws=true/\∃ bs,r=(.exit 0,Rt rb [.d p1,.d p2,.d p3,.d p4,.d p5,.d p6,.d p7,.d (.s 8 (W.ds ws))] ks ks.length bs (.d (.v (.bool false))))) \/
    (oq ks ws=false/\∃ bs,r=(.ret,Zh rb [.d p1,.d p2,.d p3,.d p4,.d p5,.d p6,.d p7,.d (.s 8 (W.ds ws))] bs))):=by
 refine Ex.inv (S:=fun t:Nat × List ae=>Rt rb [.d p1,.d p2,.d p3,.d p4,.d p5,.d p6,.d p7,.d (.s 8 (W.ds ws))] ks t.1 t.2 .u) (fun t=>ks.length-t.1) (fun t=>t.1<=ks.length/\oq ks ws=oq (ks.drop t.1) (ws.drop t.1)) _ ?_ (0,[]) ⟨by simp,by simp⟩;rintro⟨j,bs⟩ ⟨q1,q2⟩;simp only at q1 q2
 by_cases hj:j<ks.length
 ·have hk:ks[j]?=some (ks[j]'hj):=List.getElem?_eq_getElem hj;have hw:ws[j]?=some (ws[j]'(by omega)):=List.getElem?_eq_getElem (by omega);have d1:ks.drop j=ks[j]'hj::ks.drop (j+1):=List.drop_eq_getElem_cons hj;have d2:ws.drop j=ws[j]'(by omega)::ws.drop (j+1):=List.drop_eq_getElem_cons (by omega);obtain⟨bs',hr⟩:=OI rb p1 p2 p3 p4 p5 p6 p7 ws ks j bs _ _ hl hk hw (List.all_eq_true.1 hs _ (List.getElem_mem hj)) (ok _ (List.getElem_mem (by omega)));rw[d1,d2]at q2;simp only[oq]at q2;cases hv:dN (ks[j]'hj) (ws[j]'(by omega))
  ·rw[hv]at hr q2;exact .inr ⟨_,hr,by simp,.inr ⟨by simpa using q2,bs',rfl⟩⟩
  ·rw[hv]at hr q2;exact .inl ⟨(j+1,bs'),hr,by simp only;omega,by simp only;omega,by simpa using q2⟩
 ·have KX:j=ks.length:=by omega
  subst KX;rw[List.drop_length]at q2;refine .inr ⟨_,Ex.of (n:=60) ?_,?_,.inl ⟨by rw[q2];rfl,bs,rfl⟩⟩
  ·unfold Rt;generalize LK .i64 ks=l1,W.ds ws=l2,ks.length=m at*;simp -implicitDefEqProofs [Hy,f18]
  ·simp
theorem KY (ps:List Int)(w:W)(hl:ps.length<=100000000)(hw:w.OK)(tK:aH 6 ps=true)(hv:∀ n,CL E0 (n+500) 31 [.d (aT 6 ps)] []=some (.d (.v (.bool true)),none)) :
  Ca E0 18 [.d (aT 6 ps),.d w.d] (.d (.v (.bool ((w.ps.length==ps.length)&&w.bare&&oq ps w.ps))),none):=by
 have hs:ps.all single=true:=by
  unfold aH at tK;rw[if_neg (by simp)]at tK;simp only[Bool.and_eq_true]at tK;exact tK.2
 have ok:=hw;cases hw with
 | @mk s a b c i u p ws ha hb la lb hp lp hok =>
  simp only[W.ps];have n1:(LK .i64 ps).length=ps.length:=by simp[LK]
  have n2:(W.ds ws).length=ws.length:=by simp[W.dM]
  obtain⟨N,t⟩:=(oO _ ok _ (.mk (s:=false) (a:=[]) (b:=[]) (c:=0) (i:=false) (u:=0) (p:=[]) jv jv (by simp) (by simp) yA lp hok)).any;rw[eq_bare]at t;generalize hbare:W.bare (.mk s a b c i u p ws)=bare at*
  by_cases hlen:ws.length=ps.length
  ·have hl1:(ws.length==ps.length)=true:=by simpa using hlen
   have hne:((ws.length:Int) != (ps.length:Int))=false:=by simp;omega
   rw[hl1,Bool.true_and];cases hbb:bare
   ·rw[hbb]at t;rw[Bool.false_and];replace t:=t N (by omega);refine Ca.a_ (n:=N+700) ?_;rw[ah rfl (k18:E0.fn _=_) rfl];have hv':=fun n=>hv (N+n)
    simp only[W.d,W.ds,PD,LD,aT]at*;generalize LL a=x1,LL b=x2 at*;simp only[LL,List.map_nil]at*;generalize List.map Mo.d p=x5,W.ds ws=x7,LK .i64 ps=l1 at*;simp -implicitDefEqProofs [f18,hv,t,n1,n2,hne]
   ·rw[hbb]at t;rw[Bool.true_and];obtain⟨r,hr,hq⟩:=Tc (.box [.d (.v (.int .i64 6)),.d (.s 1 (LK .i64 ps))]) (.v (.bool s)) (LD a) (LD b) (.v (.int .i64 c)) (.v (.bool i)) (.v (.int .u64 u)) (PD p) ws ps hl hlen hs hok;replace t:=t N (by omega);have hA:Ex E0 f18.body.l (st0 [.d (aT 6 ps),.d (W.mk s a b c i u p ws).d,.u,.u,.u,.u,.u,.u,.u,.u,.u,.u,.u,.u,.u] [])
      (.norm,(st0 [.u,.u,.r (.loc 0) 0,.r (.loc 1) 0,.u,.u,.u,.u,.u,.u,.u,.u,.u,.u,.u] [.box [.d (.v (.int .i64 6)),.d (.s 1 (LK .i64 ps))],.box [.d (.v (.bool s)),.d (LD a),.d (LD b),.d (.v (.int .i64 c)),.d (.v (.bool i)),.d (.v (.int .u64 u)),.d (PD p),.d (.s 8 (W.ds ws))]])):=by
     refine Ex.of (n:=40) ?_;simp only[W.d,PD,LD,aT];generalize LL a=x1,LL b=x2,List.map Mo.d p=x5,W.ds ws=x7,LK .i64 ps=l1 at*;simp -implicitDefEqProofs [f18]
    have hB:Ex E0 f18.body.r.l (st0 [.u,.u,.r (.loc 0) 0,.r (.loc 1) 0,.u,.u,.u,.u,.u,.u,.u,.u,.u,.u,.u] [.box [.d (.v (.int .i64 6)),.d (.s 1 (LK .i64 ps))],.box [.d (.v (.bool s)),.d (LD a),.d (LD b),.d (.v (.int .i64 c)),.d (.v (.bool i)),.d (.v (.int .u64 u)),.d (PD p),.d (.s 8 (W.ds ws))]])
      (.norm,(st0 [.u,.u,.r (.loc 0) 0,.r (.loc 1) 0,.u,.u,.u,.d (.v (.bool false)),.u,.u,.u,.u,.u,.u,.u] [.box [.d (.v (.int .i64 6)),.d (.s 1 (LK .i64 ps))],.box [.d (.v (.bool s)),.d (LD a),.d (LD b),.d (.v (.int .i64 c)),.d (.v (.bool i)),.d (.v (.int .u64 u)),.d (PD p),.d (.s 8 (W.ds ws))]])):=by
     clear hr hq hA;refine Ex.of (n:=600) ?_;simp only[PD,LD,aT]at hv ⊢;generalize LL a=x1,LL b=x2,List.map Mo.d p=x5,W.ds ws=x7,LK .i64 ps=l1 at*;simp -implicitDefEqProofs [f18,hv]
    have hC:Ex E0 f18.body.r.r.l (st0 [.u,.u,.r (.loc 0) 0,.r (.loc 1) 0,.u,.u,.u,.d (.v (.bool false)),.u,.u,.u,.u,.u,.u,.u] [.box [.d (.v (.int .i64 6)),.d (.s 1 (LK .i64 ps))],.box [.d (.v (.bool s)),.d (LD a),.d (LD b),.d (.v (.int .i64 c)),.d (.v (.bool i)),.d (.v (.int .u64 u)),.d (PD p),.d (.s 8 (W.ds ws))]])
      (.norm,(st0 [.u,.u,.r (.loc 0) 0,.r (.loc 1) 0,.u,.u,.u,.u,.d (.v (.bool false)),.u,.u,.u,.u,.u,.u] [.box [.d (.v (.int .i64 6)),.d (.s 1 (LK .i64 ps))],.box [.d (.v (.bool s)),.d (LD a),.d (LD b),.d (.v (.int .i64 c)),.d (.v (.bool i)),.d (.v (.int .u64 u)),.d (PD p),.d (.s 8 (W.ds ws))]])):=by
     refine Ex.of (n:=60) ?_;simp only[PD,LD];generalize LL a=x1,LL b=x2,List.map Mo.d p=x5,W.ds ws=x7,LK .i64 ps=l1 at*;simp -implicitDefEqProofs [f18]
    have hD:Ex E0 f18.body.r.r.r.l (st0 [.u,.u,.r (.loc 0) 0,.r (.loc 1) 0,.u,.u,.u,.u,.d (.v (.bool false)),.u,.u,.u,.u,.u,.u] [.box [.d (.v (.int .i64 6)),.d (.s 1 (LK .i64 ps))],.box [.d (.v (.bool s)),.d (LD a),.d (LD b),.d (.v (.int .i64 c)),.d (.v (.bool i)),.d (.v (.int .u64 u)),.d (PD p),.d (.s 8 (W.ds ws))]])
      (.norm,(st0 [.u,.u,.r (.loc 0) 0,.r (.loc 1) 0,.u,.u,.u,.u,.u,.d (.v (.bool false)),.u,.u,.u,.u,.u] [.box [.d (.v (.int .i64 6)),.d (.s 1 (LK .i64 ps))],.box [.d (.v (.bool s)),.d (LD a),.d (LD b),.d (.v (.int .i64 c)),.d (.v (.bool i)),.d (.v (.int .u64 u)),.d (PD p),.d (.s 8 (W.ds ws))]])):=by
     clear hr hq hA hB hC hv;refine Ex.of (n:=N+90) ?_;simp only[W.d,PD,LD,W.ds]at t ⊢;generalize LL a=x1,LL b=x2 at*;simp only[LL,List.map_nil]at t;generalize List.map Mo.d p=x5,W.ds ws=x7,LK .i64 ps=l1 at*;simp -implicitDefEqProofs [f18,t,n1,n2,hne]
    have hE:Ex E0 f18.body.r.r.r.r.l.l (st0 [.u,.u,.r (.loc 0) 0,.r (.loc 1) 0,.u,.u,.u,.u,.u,.d (.v (.bool false)),.u,.u,.u,.u,.u] [.box [.d (.v (.int .i64 6)),.d (.s 1 (LK .i64 ps))],.box [.d (.v (.bool s)),.d (LD a),.d (LD b),.d (.v (.int .i64 c)),.d (.v (.bool i)),.d (.v (.int .u64 u)),.d (PD p),.d (.s 8 (W.ds ws))]])
      (.norm,Rt (.box [.d (.v (.int .i64 6)),.d (.s 1 (LK .i64 ps))]) [.d (.v (.bool s)),.d (LD a),.d (LD b),.d (.v (.int .i64 c)),.d (.v (.bool i)),.d (.v (.int .u64 u)),.d (PD p),.d (.s 8 (W.ds ws))] ps 0 [] .u):=by
     refine Ex.of (n:=60) ?_;unfold Rt;simp only[PD,LD];generalize LL a=x1,LL b=x2,List.map Mo.d p=x5,W.ds ws=x7,LK .i64 ps=l1 at*;simp -implicitDefEqProofs [f18,n1]
    rcases hq with ⟨hall,bs,rfl⟩|⟨hall,bs,rfl⟩
    ·rw[hall];refine Ca.body (o:=.ret) (st1:=(st0 [.u,.u,.u,.u,.d (.v (.bool true)),.u,.u,.u,.u,.u,.u,.u,.u,.u,.u] (.box [.d (.v (.int .i64 6)),.d (.s 1 (LK .i64 ps))]::.box [.d (.v (.bool s)),.d (LD a),.d (LD b),.d (.v (.int .i64 c)),.d (.v (.bool i)),.d (.v (.int .u64 u)),.d (PD p),.d (.s 8 (W.ds ws))]::bs))) rfl (k18:E0.fn _=_) rfl ?_ (by intro id h;cases h) ?_
     ·show Ex E0 (.seq f18.body.l (.seq f18.body.r.l (.seq f18.body.r.r.l (.seq f18.body.r.r.r.l (.seq (.seq f18.body.r.r.r.r.l.l (.block 0 (.loop Hy))) f18.body.r.r.r.r.r))))) _ _;refine hA.seq (hB.seq (hC.seq (hD.seq ((hE.seq hr.block).seq (Ex.of (n:=40) ?_)))));unfold Rt;generalize LK .i64 ps=l1 at*;simp -implicitDefEqProofs [f18]
     ·simp -implicitDefEqProofs [f18]
    ·rw[hall];refine Ca.body (o:=.ret) (st1:=Zh (.box [.d (.v (.int .i64 6)),.d (.s 1 (LK .i64 ps))]) [.d (.v (.bool s)),.d (LD a),.d (LD b),.d (.v (.int .i64 c)),.d (.v (.bool i)),.d (.v (.int .u64 u)),.d (PD p),.d (.s 8 (W.ds ws))] bs) rfl (k18:E0.fn _=_) rfl ?_ (by intro id h;cases h) ?_
     ·show Ex E0 (.seq f18.body.l (.seq f18.body.r.l (.seq f18.body.r.r.l (.seq f18.body.r.r.r.l (.seq (.seq f18.body.r.r.r.r.l.l (.block 0 (.loop Hy))) f18.body.r.r.r.r.r))))) _ _;exact hA.seq (hB.seq (hC.seq (hD.seq (hE.seq hr.cO).eF)))
     ·simp -implicitDefEqProofs [f18,Zh]
  ·have hl1:(ws.length==ps.length)=false:=by simpa using hlen
   have hne:((ws.length:Int) != (ps.length:Int))=true:=by simp;omega
   rw[hl1,Bool.false_and,Bool.false_and];refine Ca.a_ (n:=700) ?_;rw[ah rfl (k18:E0.fn _=_) rfl];simp only[W.d,PD,LD,aT]at*;generalize LL a=x1,LL b=x2,List.map Mo.d p=x5,W.ds ws=x7,LK .i64 ps=l1 at*;simp -implicitDefEqProofs [f18,hv,n1,n2,hne]
theorem KZ (k:Int)(ps:List Int)(w:W)(hk:k≠6)(hw:w.OK)(tK:aH k ps=true)(hv:∀ n,CL E0 (n+500) 31 [.d (aT k ps)] []=some (.d (.v (.bool true)),none)) :
  Ca E0 18 [.d (aT k ps),.d w.d] (.d (.v (.bool (dN k w))),none):=by
 have hne:(k != 6)=true:=by simpa using hk
 have hs:single k=true:=by
  unfold aH at tK;rw[if_pos hk]at tK;simp only[Bool.and_eq_true]at tK;exact tK.1
 obtain⟨n1,t1⟩:=(OG k hs w hw).any;replace t1:=t1 (n1+600) (by omega);have hv':∀ m,CL E0 (n1+600+m) 31 [.d (aT k ps)] []=some (.d (.v (.bool true)),none):=fun m=>by
  have:=hv (n1+100+m)
  rwa [show n1+100+m+500=n1+600+m by omega]at this
 clear hv;generalize dN k w=vv at*;clear tK hw;obtain⟨sx,ax,bx,cx,ix,ux,px,D_⟩:=w;simp only[W.d,PD,LD,aT]at*;generalize LL ax=x1,LL bx=x2,List.map Mo.d px=x5,W.ds D_=x7 at*;rcases aM hs with rfl|rfl|rfl|rfl|rfl
 ·have t2:=fun m=>qU yC (n1+600+m) (by omega)
  have hF:yH 1=108:=rfl;rw[hF]at t1;generalize n1+600=N at*;refine Ca.a_ (n:=N+90) ?_;rw[ah rfl (k18:E0.fn _=_) rfl];simp only[eQ,ll]at t2;generalize LK .i64 ps=l1 at*;simp -implicitDefEqProofs [f18,hv',t1,t2]
 ·have t2:=fun m=>qU yE (n1+600+m) (by omega)
  have hF:yH 2=122:=rfl;rw[hF]at t1;generalize n1+600=N at*;refine Ca.a_ (n:=N+90) ?_;rw[ah rfl (k18:E0.fn _=_) rfl];simp only[gz,fA,fT]at t2;generalize LK .i64 ps=l1 at*;simp -implicitDefEqProofs [f18,hv',t1,t2]
 ·have t2:=fun m=>qU yF (n1+600+m) (by omega)
  have hF:yH 3=133:=rfl;rw[hF]at t1;generalize n1+600=N at*;refine Ca.a_ (n:=N+90) ?_;rw[ah rfl (k18:E0.fn _=_) rfl];simp only[gB,fB,fU]at t2;generalize LK .i64 ps=l1 at*;simp -implicitDefEqProofs [f18,hv',t1,t2]
 ·have t2:=fun m=>qU yG (n1+600+m) (by omega)
  have hF:yH 4=139:=rfl;rw[hF]at t1;generalize n1+600=N at*;refine Ca.a_ (n:=N+90) ?_;rw[ah rfl (k18:E0.fn _=_) rfl];simp only[gD,fC,fV]at t2;generalize LK .i64 ps=l1 at*;simp -implicitDefEqProofs [f18,hv',t1,t2]
 ·have t2:=fun m=>qU yD (n1+600+m) (by omega)
  have hF:yH 5=149:=rfl;rw[hF]at t1;generalize n1+600=N at*;refine Ca.a_ (n:=N+90) ?_;rw[ah rfl (k18:E0.fn _=_) rfl];simp only[eP]at t2;generalize LK .i64 ps=l1 at*;simp -implicitDefEqProofs [f18,hv',t1,t2]
theorem EM (k:Int)(ps:List Int)(w:W)(hl:ps.length<=100000000)(hw:w.OK):Ca E0 18 [.d (aT k ps),.d w.d] (.d (.v (.bool (iJ k ps w))),none):=by
 have hv:=fun n=>nu n k ps
 unfold iJ;cases tK:aH k ps
 ·rw[tK]at hv;rw[Bool.false_and];refine Ca.a_ (n:=600) ?_;rw[ah rfl (k18:E0.fn _=_) rfl];obtain⟨sx,ax,bx,cx,ix,ux,px,D_⟩:=w;simp only[W.d,PD,LD,aT]at*;generalize LL ax=x1,LL bx=x2,List.map Mo.d px=x5,W.ds D_=x7,LK .i64 ps=l1 at*;simp -implicitDefEqProofs [f18,hv]
 ·rw[tK]at hv;rw[Bool.true_and]
  by_cases hk:k=6
  ·subst hk;rw[if_neg (by simp)];exact KY ps w hl hw tK hv
  ·rw[if_pos hk];exact KZ k ps w hk hw tK hv
def Wp:aD:=f29.body.r.r.r.r.l.r.bl.lp
def Ru (k:Int)(ks:List Int)(wb:List FV)(j:Nat)(t:FV):St:=(st0 [.u,.u,.r (.loc 0) 0,.r (.loc 1) 0,.u,.d (.v (.int .i64 j)),.u,.u,.u,t,.u] [.box [.d (.v (.int .i64 k)),.d (.s 1 (LK .i64 ks))],.box wb])
def Zi (k:Int)(ks:List Int)(wb:List FV):St:=(st0 [.u,.u,.u,.u,.d (.v (.bool false)),.u,.u,.u,.u,.u,.u] [.box [.d (.v (.int .i64 k)),.d (.s 1 (LK .i64 ks))],.box wb])
theorem OJ (k0:Int)(p1 p2 p3 p4 p5 p6 p7:D)(ws:List W)(ks:List Int)(j:Nat)(k:Int)(w:W)(hl:ks.length<=100000000)(hk:ks[j]?=some k)(hw:ws[j]?=some w)(hs:single k=true)(ok:w.OK) :
  Ex E0 Wp (Ru k0 ks [.d p1,.d p2,.d p3,.d p4,.d p5,.d p6,.d p7,.d (.s 8 (W.ds ws))] j .u)
   (if dN k w then(.norm,Ru k0 ks [.d p1,.d p2,.d p3,.d p4,.d p5,.d p6,.d p7,.d (.s 8 (W.ds ws))] (j+1) .u) else(.ret,Zi k0 ks [.d p1,.d p2,.d p3,.d p4,.d p5,.d p6,.d p7,.d (.s 8 (W.ds ws))])):=by
 have hj:=(bE hk)
 have hj2:=(bE hw)
 obtain⟨N,t1⟩:=(Bl k hs w ok).get;have n1':(LK .i64 ks).length=ks.length:=by simp[LK]
 have KW:(W.ds ws).length=ws.length:=by simp[W.dM]
 have e1:(LK .i64 ks)[j]?=some (.v (.int .i64 k)):=by simp[LK,hk]
 have e2:(W.ds ws)[j]?=some w.d:=by simp[W.dM,hw]
 have bg:af .i64 ((j:Int)+1)=(j:Int)+1:=wrap_i64 (by omega);have hk1:((j+1:Nat):Int)=(j:Int)+1:=by omega
 have hk0:(0:Int)<=(j:Int):=by omega
 generalize dN k w=vv at*;clear hs ok hw hk;obtain⟨sx,ax,bx,cx,ix,ux,px,D_⟩:=w;simp only[W.d,PD,LD]at*;generalize LL ax=x1,LL bx=x2,List.map Mo.d px=x5,W.ds D_=x7 at*;refine Ex.of (n:=N+90) ?_;unfold Ru Zi;rw[hk1];generalize W.ds ws=es2,LK .i64 ks=es1 at*;have i1:=idx e1;have i2:=idx e2;cases vv
 ·simp -implicitDefEqProofs [Wp,f29,hj,hj2,hk0,e1,e2,i1,i2,n1',KW,t1]
 ·simp -implicitDefEqProofs [Wp,f29,hj,hj2,hk0,e1,e2,i1,i2,n1',KW,t1,bg]
theorem Te (k0:Int)(p1 p2 p3 p4 p5 p6 p7:D)(ws:List W)(ks:List Int)(hl:ks.length<=100000000)(he:ws.length=ks.length)(hs:ks.all single=true)(ok:∀ w ∈ ws,w.OK) :
  ∃ r,Ex E0 (.loop Wp) (Ru k0 ks [.d p1,.d p2,.d p3,.d p4,.d p5,.d p6,.d p7,.d (.s 8 (W.ds ws))] 0 .u) r /\
   ((oq ks ws=true/\r=(.exit 0,Ru k0 ks [.d p1,.d p2,.d p3,.d p4,.d p5,.d p6,.d p7,.d (.s 8 (W.ds ws))] ks.length (.d (.v (.bool false))))) \/
    (oq ks ws=false/\r=(.ret,Zi k0 ks [.d p1,.d p2,.d p3,.d p4,.d p5,.d p6,.d p7,.d (.s 8 (W.ds ws))]))):=by
 refine Ex.inv (S:=fun j:Nat=>Ru k0 ks [.d p1,.d p2,.d p3,.d p4,.d p5,.d p6,.d p7,.d (.s 8 (W.ds ws))] j .u) (fun j=>ks.length-j) (fun j=>j<=ks.length/\oq ks ws=oq (ks.drop j) (ws.drop j)) _ ?_ 0 ⟨by simp,by simp⟩;rintro j ⟨q1,q2⟩
 by_cases hj:j<ks.length
 ·have hk:ks[j]?=some (ks[j]'hj):=List.getElem?_eq_getElem hj;have hw:ws[j]?=some (ws[j]'(by omega)):=List.getElem?_eq_getElem (by omega);have d1:ks.drop j=ks[j]'hj::ks.drop (j+1):=List.drop_eq_getElem_cons hj;have d2:ws.drop j=ws[j]'(by omega)::ws.drop (j+1):=List.drop_eq_getElem_cons (by omega);have hr:=OJ k0 p1 p2 p3 p4 p5 p6 p7 ws ks j _ _ hl hk hw (List.all_eq_true.1 hs _ (List.getElem_mem hj)) (ok _ (List.getElem_mem (by omega)));rw[d1,d2]at q2;simp only[oq]at q2;cases hv:dN (ks[j]'hj) (ws[j]'(by omega))
  ·rw[hv]at hr q2;exact .inr ⟨_,hr,by simp,.inr ⟨by simpa using q2,rfl⟩⟩
  ·rw[hv]at hr q2;exact .inl ⟨j+1,hr,by omega,by omega,by simpa using q2⟩
 ·have KX:j=ks.length:=by omega
  subst KX;have n1':(LK .i64 ks).length=ks.length:=by simp[LK]
  rw[List.drop_length]at q2;refine .inr ⟨_,Ex.of (n:=60) ?_,?_,.inl ⟨by rw[q2];rfl,rfl⟩⟩
  ·unfold Ru;generalize LK .i64 ks=l1,W.ds ws=l2,ks.length=m at*;simp -implicitDefEqProofs [Wp,f29,n1']
  ·simp
theorem Hz (ps:List Int)(w:W)(hl:ps.length<=100000000)(hw:w.OK)(tK:aH 6 ps=true)(hv:∀ n,CL E0 (n+500) 28 [.d (aT 6 ps)] []=some (.d (.v (.bool true)),none)) :
  Ca E0 29 [.d (aT 6 ps),.d w.d] (.d (.v (.bool ((w.ps.length==ps.length)&&w.bare&&oq ps w.ps))),none):=by
 have hs:ps.all single=true:=by
  unfold aH at tK;rw[if_neg (by simp)]at tK;simp only[Bool.and_eq_true]at tK;exact tK.2
 have ok:=hw;cases hw with
 | @mk s a b c i u p ws ha hb la lb hp lp hok =>
  simp only[W.ps];have n1:(LK .i64 ps).length=ps.length:=by simp[LK]
  have n2:(W.ds ws).length=ws.length:=by simp[W.dM]
  obtain⟨N,t⟩:=(Bi _ (.mk (s:=false) (a:=[]) (b:=[]) (c:=0) (i:=false) (u:=0) (p:=[]) jv jv (by simp) (by simp) yA lp hok) _ ok).any;rw[OH]at t;generalize hbare:W.bare (.mk s a b c i u p ws)=bare at*
  by_cases hlen:ws.length=ps.length
  ·have hl1:(ws.length==ps.length)=true:=by simpa using hlen
   have hne:((ws.length:Int) != (ps.length:Int))=false:=by simp;omega
   rw[hl1,Bool.true_and];have hA:Ex E0 f29.body.l (st0 [.d (aT 6 ps),.d (W.mk s a b c i u p ws).d,.u,.u,.u,.u,.u,.u,.u,.u,.u] [])
     (.norm,(st0 [.u,.u,.r (.loc 0) 0,.r (.loc 1) 0,.u,.u,.u,.u,.u,.u,.u] [.box [.d (.v (.int .i64 6)),.d (.s 1 (LK .i64 ps))],.box [.d (.v (.bool s)),.d (LD a),.d (LD b),.d (.v (.int .i64 c)),.d (.v (.bool i)),.d (.v (.int .u64 u)),.d (PD p),.d (.s 8 (W.ds ws))]])):=by
    refine Ex.of (n:=40) ?_;simp only[W.d,PD,LD,aT];generalize LL a=x1;generalize LL b=x2;generalize List.map Mo.d p=x5;generalize W.ds ws=x7;generalize LK .i64 ps=l1;simp -implicitDefEqProofs [f29]
   have hB:Ex E0 f29.body.r.l (st0 [.u,.u,.r (.loc 0) 0,.r (.loc 1) 0,.u,.u,.u,.u,.u,.u,.u] [.box [.d (.v (.int .i64 6)),.d (.s 1 (LK .i64 ps))],.box [.d (.v (.bool s)),.d (LD a),.d (LD b),.d (.v (.int .i64 c)),.d (.v (.bool i)),.d (.v (.int .u64 u)),.d (PD p),.d (.s 8 (W.ds ws))]])
     (.norm,(st0 [.u,.u,.r (.loc 0) 0,.r (.loc 1) 0,.u,.u,.d (.v (.bool false)),.u,.u,.u,.u] [.box [.d (.v (.int .i64 6)),.d (.s 1 (LK .i64 ps))],.box [.d (.v (.bool s)),.d (LD a),.d (LD b),.d (.v (.int .i64 c)),.d (.v (.bool i)),.d (.v (.int .u64 u)),.d (PD p),.d (.s 8 (W.ds ws))]])):=by
    refine Ex.of (n:=600) ?_;simp only[PD,LD,aT]at hv ⊢;generalize LL a=x1;generalize LL b=x2;generalize List.map Mo.d p=x5;generalize W.ds ws=x7;generalize LK .i64 ps=l1 at hv ⊢;simp -implicitDefEqProofs [f29,hv]
   have hC:Ex E0 f29.body.r.r.l (st0 [.u,.u,.r (.loc 0) 0,.r (.loc 1) 0,.u,.u,.d (.v (.bool false)),.u,.u,.u,.u] [.box [.d (.v (.int .i64 6)),.d (.s 1 (LK .i64 ps))],.box [.d (.v (.bool s)),.d (LD a),.d (LD b),.d (.v (.int .i64 c)),.d (.v (.bool i)),.d (.v (.int .u64 u)),.d (PD p),.d (.s 8 (W.ds ws))]])
     (.norm,(st0 [.u,.u,.r (.loc 0) 0,.r (.loc 1) 0,.u,.u,.u,.d (.v (.bool false)),.u,.u,.u] [.box [.d (.v (.int .i64 6)),.d (.s 1 (LK .i64 ps))],.box [.d (.v (.bool s)),.d (LD a),.d (LD b),.d (.v (.int .i64 c)),.d (.v (.bool i)),.d (.v (.int .u64 u)),.d (PD p),.d (.s 8 (W.ds ws))]])):=by
    refine Ex.of (n:=60) ?_;simp only[PD,LD];generalize LL a=x1;generalize LL b=x2;generalize List.map Mo.d p=x5;generalize W.ds ws=x7;generalize LK .i64 ps=l1;simp -implicitDefEqProofs [f29]
   cases hbb:bare
   ·rw[hbb]at t;rw[Bool.false_and];replace t:=t N (by omega);refine Ca.body (o:=.ret) (st1:=(st0 [.u,.u,.u,.u,.d (.v (.bool false)),.u,.u,.u,.u,.u,.u] [.box [.d (.v (.int .i64 6)),.d (.s 1 (LK .i64 ps))],.box [.d (.v (.bool s)),.d (LD a),.d (LD b),.d (.v (.int .i64 c)),.d (.v (.bool i)),.d (.v (.int .u64 u)),.d (PD p),.d (.s 8 (W.ds ws))]])) rfl (k29:E0.fn _=_) rfl ?_ (by intro id h;cases h) ?_
    ·show Ex E0 (.seq f29.body.l (.seq f29.body.r.l (.seq f29.body.r.r.l f29.body.r.r.r))) _ _;refine hA.seq (hB.seq (hC.seq (Ex.of (n:=N+90) ?_)));simp only[W.d,PD,LD,W.ds]at t ⊢;generalize LL a=x1 at t ⊢;generalize LL b=x2 at t ⊢;simp only[LL,List.map_nil]at t;generalize List.map Mo.d p=x5 at t ⊢;generalize W.ds ws=x7 at t n2 ⊢;generalize LK .i64 ps=l1 at n1 ⊢;simp -implicitDefEqProofs [f29,t,n1,n2,hne]
    ·simp -implicitDefEqProofs [f29]
   ·rw[hbb]at t;rw[Bool.true_and];obtain⟨r,hr,hq⟩:=Te 6 (.v (.bool s)) (LD a) (LD b) (.v (.int .i64 c)) (.v (.bool i)) (.v (.int .u64 u)) (PD p) ws ps hl hlen hs hok;replace t:=t N (by omega);have hD:Ex E0 f29.body.r.r.r.l (st0 [.u,.u,.r (.loc 0) 0,.r (.loc 1) 0,.u,.u,.u,.d (.v (.bool false)),.u,.u,.u] [.box [.d (.v (.int .i64 6)),.d (.s 1 (LK .i64 ps))],.box [.d (.v (.bool s)),.d (LD a),.d (LD b),.d (.v (.int .i64 c)),.d (.v (.bool i)),.d (.v (.int .u64 u)),.d (PD p),.d (.s 8 (W.ds ws))]])
      (.norm,(st0 [.u,.u,.r (.loc 0) 0,.r (.loc 1) 0,.u,.u,.u,.u,.d (.v (.bool false)),.u,.u] [.box [.d (.v (.int .i64 6)),.d (.s 1 (LK .i64 ps))],.box [.d (.v (.bool s)),.d (LD a),.d (LD b),.d (.v (.int .i64 c)),.d (.v (.bool i)),.d (.v (.int .u64 u)),.d (PD p),.d (.s 8 (W.ds ws))]])):=by
     refine Ex.of (n:=N+90) ?_;simp only[W.d,PD,LD,W.ds]at t ⊢;generalize LL a=x1 at t ⊢;generalize LL b=x2 at t ⊢;simp only[LL,List.map_nil]at t;generalize List.map Mo.d p=x5 at t ⊢;generalize W.ds ws=x7 at t n2 ⊢;generalize LK .i64 ps=l1 at n1 ⊢;simp -implicitDefEqProofs [f29,t,n1,n2,hne]
    have hE:Ex E0 f29.body.r.r.r.r.l.l (st0 [.u,.u,.r (.loc 0) 0,.r (.loc 1) 0,.u,.u,.u,.u,.d (.v (.bool false)),.u,.u] [.box [.d (.v (.int .i64 6)),.d (.s 1 (LK .i64 ps))],.box [.d (.v (.bool s)),.d (LD a),.d (LD b),.d (.v (.int .i64 c)),.d (.v (.bool i)),.d (.v (.int .u64 u)),.d (PD p),.d (.s 8 (W.ds ws))]])
      (.norm,Ru 6 ps [.d (.v (.bool s)),.d (LD a),.d (LD b),.d (.v (.int .i64 c)),.d (.v (.bool i)),.d (.v (.int .u64 u)),.d (PD p),.d (.s 8 (W.ds ws))] 0 .u):=by
     refine Ex.of (n:=60) ?_;unfold Ru;simp only[PD,LD];generalize LL a=x1;generalize LL b=x2;generalize List.map Mo.d p=x5;generalize W.ds ws=x7;generalize LK .i64 ps=l1;simp -implicitDefEqProofs [f29]
    rcases hq with ⟨hall,rfl⟩|⟨hall,rfl⟩
    ·rw[hall];refine Ca.body (o:=.ret) (st1:=(st0 [.u,.u,.u,.u,.d (.v (.bool true)),.u,.u,.u,.u,.u,.u] [.box [.d (.v (.int .i64 6)),.d (.s 1 (LK .i64 ps))],.box [.d (.v (.bool s)),.d (LD a),.d (LD b),.d (.v (.int .i64 c)),.d (.v (.bool i)),.d (.v (.int .u64 u)),.d (PD p),.d (.s 8 (W.ds ws))]])) rfl (k29:E0.fn _=_) rfl ?_ (by intro id h;cases h) ?_
     ·show Ex E0 (.seq f29.body.l (.seq f29.body.r.l (.seq f29.body.r.r.l (.seq f29.body.r.r.r.l (.seq (.seq f29.body.r.r.r.r.l.l (.block 0 (.loop Wp))) f29.body.r.r.r.r.r))))) _ _;refine hA.seq (hB.seq (hC.seq (hD.seq ((hE.seq hr.block).seq (Ex.of (n:=40) ?_)))));unfold Ru;generalize LK .i64 ps=l1;simp -implicitDefEqProofs [f29]
     ·simp -implicitDefEqProofs [f29]
    ·rw[hall];refine Ca.body (o:=.ret) (st1:=Zi 6 ps [.d (.v (.bool s)),.d (LD a),.d (LD b),.d (.v (.int .i64 c)),.d (.v (.bool i)),.d (.v (.int .u64 u)),.d (PD p),.d (.s 8 (W.ds ws))]) rfl (k29:E0.fn _=_) rfl ?_ (by intro id h;cases h) ?_
     ·show Ex E0 (.seq f29.body.l (.seq f29.body.r.l (.seq f29.body.r.r.l (.seq f29.body.r.r.r.l (.seq (.seq f29.body.r.r.r.r.l.l (.block 0 (.loop Wp))) f29.body.r.r.r.r.r))))) _ _;exact hA.seq (hB.seq (hC.seq (hD.seq (hE.seq hr.cO).eF)))
     ·simp -implicitDefEqProofs [f29,Zi]
  ·have hl1:(ws.length==ps.length)=false:=by simpa using hlen
   have hne:((ws.length:Int) != (ps.length:Int))=true:=by simp;omega
   rw[hl1,Bool.false_and,Bool.false_and];refine Ca.a_ (n:=700) ?_;rw[ah rfl (k29:E0.fn _=_) rfl];clear t hok ok;simp only[W.d,PD,LD,aT]at*;generalize LL a=x1,LL b=x2,List.map Mo.d p=x5,W.ds ws=x7,LK .i64 ps=l1 at*;simp -implicitDefEqProofs [f29,hv,n1,n2,hne]
theorem uY (k:Int)(ps:List Int)(w:W)(hl:ps.length<=100000000)(hw:w.OK):Ca E0 29 [.d (aT k ps),.d w.d] (.d (.v (.bool (iJ k ps w))),none):=by
 have hv:=fun n=>bG n k ps
 unfold iJ;cases tK:aH k ps
 ·rw[tK]at hv;rw[Bool.false_and];refine Ca.a_ (n:=600) ?_;rw[ah rfl (k29:E0.fn _=_) rfl];obtain⟨sx,ax,bx,cx,ix,ux,px,D_⟩:=w;simp only[W.d,PD,LD,aT]at*;generalize LL ax=x1,LL bx=x2,List.map Mo.d px=x5,W.ds D_=x7,LK .i64 ps=l1 at*;simp -implicitDefEqProofs [f29,hv]
 ·rw[tK]at hv;rw[Bool.true_and]
  by_cases hk:k=6
  ·subst hk;rw[if_neg (by simp)];exact Hz ps w hl hw tK hv
  ·rw[if_pos hk];have hne:(k != 6)=true:=by simpa using hk
   have hs:single k=true:=by
    unfold aH at tK;rw[if_pos hk]at tK;simp only[Bool.and_eq_true]at tK;exact tK.1
   obtain⟨n1,t1⟩:=(Bl k hs w hw).any;replace t1:=t1 (n1+600) (by omega);have hv':∀ m,CL E0 (n1+600+m) 28 [.d (aT k ps)] []=some (.d (.v (.bool true)),none):=fun m=>by
    have:=hv (n1+100+m)
    rwa [show n1+100+m+500=n1+600+m by omega]at this
   clear hv;generalize dN k w=vv,n1+600=N at*;clear tK hw;refine Ca.a_ (n:=N+90) ?_;rw[ah rfl (k29:E0.fn _=_) rfl];obtain⟨sx,ax,bx,cx,ix,ux,px,D_⟩:=w;simp only[W.d,PD,LD,aT]at*;generalize LL ax=x1,LL bx=x2,List.map Mo.d px=x5,W.ds D_=x7,LK .i64 ps=l1 at*;simp -implicitDefEqProofs [f29,hv',t1,hne]
end Fi.S
