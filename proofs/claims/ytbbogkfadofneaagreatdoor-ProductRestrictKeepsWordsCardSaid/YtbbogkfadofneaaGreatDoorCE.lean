import Derived.Test.YtbbogkfadofneaaGreatDoorCD
set_option linter.unusedVariables false
set_option linter.unusedSimpArgs false
noncomputable section
namespace Fi.S
open Go Fi
set_option maxHeartbeats 8000000
set_option maxRecDepth 4000
def single (k:Int):Bool:=decide (1<=k)&&decide (k<=5)
def aK (k:Int)(ps:List Int):Bool:=if k≠6 then single k&&decide (ps=[]) else decide (2<=ps.length)&&decide (ps.length<=3)&&ps.all single
theorem BD (n:Nat)(k:Int):CL E0 (n+30) 67 [dI k] []=some (dB (single k),none):=by
 rw[av rfl (aM 67 f67:E0.fn _=_) rfl];unfold single
 by_cases h:1<=k
 ·by_cases h2:k<=5
  ·simp[f67,h,h2]
  ·simp[f67,h,h2]
 ·simp[f67,h]
theorem jf (n:Nat)(k:Int):CL E0 (n+60) 69 [dI k] []=some (dB (!single k),none):=by
 have h:=fun m=>BD m k
 rw[av rfl (aM 69 f69:E0.fn _=_) rfl];generalize single k=b at*;simp[f69,h]
theorem Ea (n:Nat)(x y:Int):CL E0 (n+300) 68 [.d (.s 1 (LK .i64 [x,y])),.d (.fn 69)] []=some (dB (!(single x&&single y)),none):=by
 have h1:=fun m=>jf m x
 have h2:=fun m=>jf m y
 have w1:ai .i64 1=1:=wrap_i64 ae;have w2:ai .i64 2=2:=wrap_i64 ae;have hi:∃ v:Int,(decide (0<=v) = !(single x&&single y))/\∀ m,CL E0 (m+200) 100 [.d (.s 1 (LK .i64 [x,y])),.d (.fn 69)] []=some (dI v,none):=by
  cases hx:single x
  ·refine⟨0,rfl,fun m => ?_⟩;rw[hx]at h1;rw[av rfl (k100:E0.fn _=_) rfl];simp only[LK,Qe2,Qc1];simp[f100,aC,h1]
  ·cases hy:single y
   ·refine⟨1,rfl,fun m => ?_⟩;rw[hx]at h1;rw[hy]at h2;rw[av rfl (k100:E0.fn _=_) rfl];simp only[LK,Qe2,Qc1];simp[f100,aC,w1,h1,h2]
   ·refine⟨-1,rfl,fun m => ?_⟩;rw[hx]at h1;rw[hy]at h2;rw[av rfl (k100:E0.fn _=_) rfl];simp only[LK,Qe2,Qc1];simp[f100,aC,w1,w2,h1,h2]
 obtain⟨v,hv,hi⟩:=hi;rw[av rfl (k68:E0.fn _=_) rfl];rw[<-hv];generalize LK .i64 [x,y]=l at*;simp[f68,hi]
theorem Eb (n:Nat)(x y z:Int):CL E0 (n+300) 68 [.d (.s 1 (LK .i64 [x,y,z])),.d (.fn 69)] []=some (dB (!(single x&&(single y&&single z))),none):=by
 have h1:=fun m=>jf m x
 have h2:=fun m=>jf m y
 have h3:=fun m=>jf m z
 have w1:ai .i64 1=1:=wrap_i64 ae;have w2:ai .i64 2=2:=wrap_i64 ae;have w3:ai .i64 3=3:=wrap_i64 ae;have hi:∃ v:Int,(decide (0<=v) = !(single x&&(single y&&single z)))/\∀ m,CL E0 (m+200) 100 [.d (.s 1 (LK .i64 [x,y,z])),.d (.fn 69)] []=some (dI v,none):=by
  cases hx:single x
  ·refine⟨0,rfl,fun m => ?_⟩;rw[hx]at h1;rw[av rfl (k100:E0.fn _=_) rfl];simp only[LK,Qe2,Qc1];simp[f100,aC,h1]
  ·cases hy:single y
   ·refine⟨1,rfl,fun m => ?_⟩;rw[hx]at h1;rw[hy]at h2;rw[av rfl (k100:E0.fn _=_) rfl];simp only[LK,Qe2,Qc1];simp[f100,aC,w1,h1,h2]
   ·cases hz:single z
    ·refine⟨2,rfl,fun m => ?_⟩;rw[hx]at h1;rw[hy]at h2;rw[hz]at h3;rw[av rfl (k100:E0.fn _=_) rfl];simp only[LK,Qe2,Qc1];simp[f100,aC,w1,w2,h1,h2,h3]
    ·refine⟨-1,rfl,fun m => ?_⟩;rw[hx]at h1;rw[hy]at h2;rw[hz]at h3;rw[av rfl (k100:E0.fn _=_) rfl];simp only[LK,Qe2,Qc1];simp[f100,aC,w1,w2,w3,h1,h2,h3]
 obtain⟨v,hv,hi⟩:=hi;rw[av rfl (k68:E0.fn _=_) rfl];rw[<-hv];generalize LK .i64 [x,y,z]=l at*;simp[f68,hi]
theorem pF (n:Nat)(k:Int)(ps:List Int):CL E0 (n+500) 31 [.d (aT k ps)] []=some (dB (aK k ps),none):=by
 have hs:=fun m=>BD m k
 rw[av rfl (aM 31 f31:E0.fn _=_) rfl];unfold aK aT
 by_cases hk:k=6
 ·subst hk;rw[if_neg aA]
  match ps with
  | []=>simp[f31,LK]
  | [x]=>simp[f31,LK]
  | [x,y] =>
   have h:=fun m=>Ea m x y
   simp only[LK,Qe2,Qc1]at h;simp[f31,LK,h]
  | [x,y,z] =>
   have h:=fun m=>Eb m x y z
   simp only[LK,Qe2,Qc1]at h;simp[f31,LK,h]
  | x::y::z::w::r =>
   have h2:(2:Int)<=(r.length:Int)+1+1+1+1:=ae;have h3:¬ (r.length:Int)+1+1+1+1<=3:=ae;simp[f31,LK,h2,h3]
 ·rw[if_pos hk];have hne:(k != 6)=true:=by simpa using hk
  cases hb:single k
  ·rw[hb]at hs;simp[f31,hne,hs]
  ·rw[hb]at hs;cases ps with
   | nil=>simp[f31,LK,hne,hs]
   | cons x r =>
    have h0:(((r.length:Int)+1)==0)=false:=by simp;omega
    simp[f31,LK,hne,hs,h0]
theorem jI (x:Int):(single x=true/\¬ x<1/\¬ 5<x)\/(single x=false/\x<1)\/(single x=false/\¬ x<1/\5<x):=by
 unfold single
 by_cases h1:x<1
 ·have:¬ 1<=x:=ae;simp[this,h1]
 ·by_cases h2:5<x
  ·have:¬ x<=5:=ae;simp[this,h1,h2]
  ·have a1:1<=x:=ae;have a2:x<=5:=ae;simp[a1,a2]
theorem fU (n:Nat)(k:Int)(ps:List Int):CL E0 (n+500) 28 [.d (aT k ps)] []=some (dB (aK k ps),none):=by
 rw[av rfl (aM 28 f28:E0.fn _=_) rfl];have w1:ai .i64 1=1:=wrap_i64 ae;have w2:ai .i64 2=2:=wrap_i64 ae;have w3:ai .i64 3=3:=wrap_i64 ae;unfold aK aT
 by_cases hk:k=6
 ·subst hk;rw[if_neg aA]
  match ps with
  | []=>simp[f28,LK]
  | [x]=>simp[f28,LK]
  | [x,y] =>
   rcases jI x with ⟨a,a1,a2⟩|⟨a,a1⟩|⟨a,a1,a2⟩
   ·rcases jI y with ⟨b,b1,b2⟩|⟨b,b1⟩|⟨b,b1,b2⟩
    ·simp[f28,aC,LK,w1,w2,a,a1,a2,b,b1,b2]
    ·simp[f28,aC,LK,w1,a,a1,a2,b,b1]
    ·simp[f28,aC,LK,w1,a,a1,a2,b,b1,b2]
   ·simp[f28,aC,LK,a,a1]
   ·simp[f28,aC,LK,a,a1,a2]
  | [x,y,z] =>
   rcases jI x with ⟨a,a1,a2⟩|⟨a,a1⟩|⟨a,a1,a2⟩
   ·rcases jI y with ⟨b,b1,b2⟩|⟨b,b1⟩|⟨b,b1,b2⟩
    ·rcases jI z with ⟨c,c1,c2⟩|⟨c,c1⟩|⟨c,c1,c2⟩
     ·simp[f28,aC,LK,w1,w2,w3,a,a1,a2,b,b1,b2,c,c1,c2]
     ·simp[f28,aC,LK,w1,w2,a,a1,a2,b,b1,b2,c,c1]
     ·simp[f28,aC,LK,w1,w2,a,a1,a2,b,b1,b2,c,c1,c2]
    ·simp[f28,aC,LK,w1,a,a1,a2,b,b1]
    ·simp[f28,aC,LK,w1,a,a1,a2,b,b1,b2]
   ·simp[f28,aC,LK,a,a1]
   ·simp[f28,aC,LK,a,a1,a2]
  | x::y::z::w::r =>
   have h2:¬ (r.length:Int)+1+1+1+1<2:=ae;have h3:(3:Int)<(r.length:Int)+1+1+1+1:=ae;simp[f28,LK,h2,h3]
 ·rw[if_pos hk];have hne:(k != 6)=true:=by simpa using hk
  unfold single
  by_cases b1:1<=k
  ·by_cases b2:k<=5
   ·cases ps with
    | nil=>simp[f28,LK,hne,b1,b2]
    | cons x r =>
     have h0:(((r.length:Int)+1)==0)=false:=by simp;omega
     simp[f28,LK,hne,b1,b2,h0]
   ·generalize LK .i64 ps=l at*;simp[f28,hne,b1,b2]
  ·generalize LK .i64 ps=l at*;simp[f28,hne,b1]
def q0 (s:Bool)(a b:List Nat):Bool := !s&&decide (a=[])&&decide (b=[])
def fO (k:Int):W->Bool
 | .mk s a b c i u p ps =>
  if k=1 then dS s a b&&((c==0) && !i&&(u==0)&&p.isEmpty&&ps.isEmpty)
  else if k=2 then(decide (0<=c)&&decide (c<=1099511627776)&&(!i||(c==0)))&&(q0 s a b&&(u==0)&&p.isEmpty&&ps.isEmpty)
  else if k=3 then(dS s a b&&((c==0) && !i&&(u==0)&&p.isEmpty&&ps.isEmpty))&&decide (0<=(cz s a b).num.sign) && !decide ((1:Rat)<cz s a b)
  else if k=4 then q0 s a b&&(c==0) && !i&&p.isEmpty&&ps.isEmpty
  else zi none p&&(q0 s a b&&(c==0) && !i&&(u==0)&&ps.isEmpty)
theorem Au {α:Type}(eq:α->α->Bool)(l:List α):kT eq l []=l.isEmpty:=by cases l<;>rfl
theorem Av (l:List W):W.eqs l []=l.isEmpty:=by cases l<;>rfl
theorem BF {α:Type}{eq:α->α->Bool}(h:∀ x,eq x x=true):∀ l:List α,kT eq l l=true
 | []=>rfl
 | x::r=>by simp[kT,h x,BF h r]
theorem EL (m:Mo):m.eq m=true:=by simp[Mo.eq]
theorem wB (s:Bool)(a b:List Nat):(s==false&&decide (a=[])&&decide (b=[]))=q0 s a b:=by cases s<;>rfl
theorem Aw (s:Bool)(a b:List Nat)(c:Int)(i:Bool)(u:Int)(p:List Mo)(ha:bY a)(hb:bY b)(la:a.length<=1000)(lb:b.length<=1000)(hp:Po p):(W.mk s a b c i u p []).OK :=
 .mk ha hb la lb hp aA (fun w hw=>by cases hw)
theorem kK:bY []:=fun x hx=>by cases hx
theorem BG:Po []:=⟨(fun m hm=>by cases hm),aA⟩
theorem NS (w:W)(hw:w.OK):Ca E0 108 [.d w.d] (dB (fO 1 w),none):=by
 cases hw with
 | @mk s a b c i u p ps ha hb la lb hp lp h =>
  obtain⟨Kq,_,t1,t2⟩:=((x_ s a b ae ae ha hb).j ((oz _ (.mk (c:=c) (i:=i) (u:=u) (s:=s) ha hb la lb hp lp h) _ (Aw s a b 0 false 0 [] ha hb la lb BG)).any)).at 0;generalize Kq=N at*;have e:W.eq (.mk s a b c i u p ps) (.mk s a b 0 false 0 [] [])=((c==0) && !i&&(u==0)&&p.isEmpty&&ps.isEmpty):=by
   simp only[W.eq,Au,Av];cases i<;>simp
  rw[e]at t2;refine Ca.bP (n:=N+90) ?_;rw[av rfl (aM 108 f108:E0.fn _=_) rfl];rw[fO];rw[if_pos rfl];generalize ((c==0) && !i&&(u==0)&&p.isEmpty&&ps.isEmpty)=r2,dS s a b=r1 at*;simp only[W.d,W.ds,PD,raw,LD]at*;generalize LL a=x1,LL b=x2,W.ds ps=x4 at*;simp only[Qc1]at*;generalize List.map Mo.d p=x3 at*;cases r1
  ·simp[f108,t1]
  ·simp[f108,t1,t2]
theorem YB (w:W)(hw:w.OK):Ca E0 122 [.d w.d] (dB (fO 2 w),none):=by
 cases hw with
 | @mk s a b c i u p ps ha hb la lb hp lp h =>
  obtain⟨N,t2⟩:=(oz _ (.mk (c:=c) (i:=i) (u:=u) (s:=s) ha hb la lb hp lp h) _ (Aw false [] [] c i 0 [] kK kK aA aA BG)).get;have e:W.eq (.mk s a b c i u p ps) (.mk false [] [] c i 0 [] [])=(q0 s a b&&(u==0)&&p.isEmpty&&ps.isEmpty):=by
   simp only[W.eq,Au,Av,wB];simp
  rw[e]at t2;refine Ca.bP (n:=N+90) ?_;rw[av rfl (aM 122 f122:E0.fn _=_) rfl];rw[fO];rw[if_neg ae,if_pos rfl];generalize (q0 s a b&&(u==0)&&p.isEmpty&&ps.isEmpty)=r2 at*;simp only[W.d,W.ds,PD,LD]at*;generalize LL a=x1,LL b=x2,W.ds ps=x4 at*;simp only[Qc1,LL]at*;generalize List.map Mo.d p=x3 at*
  by_cases h1:0<=c
  ·by_cases h2:c<=1099511627776
   ·cases i
    ·simp[f122,t2,h1,h2]
    ·cases h3:(c==0)
     ·simp[f122,t2,h1,h2,h3]
     ·simp[f122,t2,h1,h2,h3]
   ·simp[f122,h1,h2]
  ·simp[f122,h1]
theorem YC (w:W)(hw:w.OK):Ca E0 139 [.d w.d] (dB (fO 4 w),none):=by
 cases hw with
 | @mk s a b c i u p ps ha hb la lb hp lp h =>
  obtain⟨N,t2⟩:=(oz _ (.mk (c:=c) (i:=i) (u:=u) (s:=s) ha hb la lb hp lp h) _ (Aw false [] [] 0 false u [] kK kK aA aA BG)).get;have e:W.eq (.mk s a b c i u p ps) (.mk false [] [] 0 false u [] [])=(q0 s a b&&(c==0) && !i&&p.isEmpty&&ps.isEmpty):=by
   simp only[W.eq,Au,Av,wB];cases i<;>simp
  rw[e]at t2;refine Ca.bP (n:=N+90) ?_;rw[av rfl (aM 139 f139:E0.fn _=_) rfl];rw[fO];rw[if_neg ae,if_neg ae,if_neg ae,if_pos rfl];generalize (q0 s a b&&(c==0) && !i&&p.isEmpty&&ps.isEmpty)=r2 at*;simp only[W.d,W.ds,PD,LD]at*;generalize LL a=x1,LL b=x2,W.ds ps=x4 at*;simp only[Qc1,LL]at*;generalize List.map Mo.d p=x3 at*;simp[f139,t2]
theorem YD (w:W)(hw:w.OK):Ca E0 149 [.d w.d] (dB (fO 5 w),none):=by
 cases hw with
 | @mk s a b c i u p ps ha hb la lb hp lp h =>
  obtain⟨Kq,_,t1,t2⟩:=((EI p hp).j ((oz _ (.mk (c:=c) (i:=i) (u:=u) (s:=s) ha hb la lb hp lp h) _ (Aw false [] [] 0 false 0 p kK kK aA aA hp)).any)).at 0;generalize Kq=N at*;have e:W.eq (.mk s a b c i u p ps) (.mk false [] [] 0 false 0 p [])=(q0 s a b&&(c==0) && !i&&(u==0)&&ps.isEmpty):=by
   simp only[W.eq,BF EL,Av,wB];cases i<;>simp
  rw[e]at t2;refine Ca.bP (n:=N+90) ?_;rw[av rfl (aM 149 f149:E0.fn _=_) rfl];rw[fO];rw[if_neg ae,if_neg ae,if_neg ae,if_neg ae];generalize (q0 s a b&&(c==0) && !i&&(u==0)&&ps.isEmpty)=r2,zi none p=r1 at*;simp only[W.d,W.ds,PD,LD]at*;generalize LL a=x1,LL b=x2,W.ds ps=x4 at*;simp only[Qc1,LL]at*;generalize List.map Mo.d p=x3 at*;cases r1
  ·simp[f149,t1]
  ·simp[f149,t1,t2]
def Ec:D:=.a [(.fn 108),(.fn 110),(.fn 111),(.fn 113),(.fn 115),(.fn 117),(.fn 118),(.fn 119),(.fn 121)]
theorem ab0 (n:Nat):CL E0 (n+40) 79 [] []=some (.d Ec,none):=by
 rw[av rfl (aM 79 f79:E0.fn _=_) rfl];unfold Ec;simp[f79]
theorem Gv:qD (1:Rat)=raw false [1] []:=by
 have h1:qs (1:Rat)=false:=by unfold qs;rfl
 have h2:qn (1:Rat)=[1]:=by
  have:(1:Rat).num.natAbs=1:=rfl;unfold qn;rw[this];exact Ao.2 rfl
 have h3:qd (1:Rat)=[]:=by
  have:(1:Rat).den=1:=rfl;unfold qd;rw[if_pos this]
 rw[qD,h1,h2,h3]
theorem NT:q8 1 1=1:=by rw[Te _ _ ae];simp;grind
def ab1:D:=.a [vB false,.s 1 [.v (.int .u32 1)],.s 1 [],vI 0,vB false,.v (.int .u64 0),.s 6 [],.s 8 []]
theorem Lv:Ca E0 112 [dI 1] (.d ab1,none):=by
 obtain⟨N,t⟩:=(Yj 1 1 ae ae ae).get;rw[NT,Gv]at t;refine Ca.bP (n:=N+80) ?_;rw[av rfl (aM 112 f112:E0.fn _=_) rfl];unfold ab1;simp only[raw,LD,LL,Qe2,Qc1,Int.natCast_one]at t;simp[f112,uz,t]
theorem yn:qz (1:Rat)<=1:=by
 have h1:(1:Rat).num.natAbs=1:=rfl;have h2:(1:Rat).den=1:=rfl;unfold qz;rw[h1,h2,Bj];omega
theorem YE (w:W)(hw:w.OK):Ca E0 133 [.d w.d] (dB (fO 3 w),none):=by
 have hc1:=NS w hw;cases hw with
 | @mk s a b c i u p ps ha hb la lb hp lp h =>
  rw[fO,if_pos rfl]at hc1;rw[fO,if_neg ae,if_neg ae,if_pos rfl];have a79:=ab0;obtain⟨n1,t1⟩:=hc1.any;cases hv:dS s a b
  ·rw[hv]at t1;simp only[Q31]at t1 ⊢;replace t1:=t1 n1 ae;refine Ca.bP (n:=n1+90) ?_;rw[av rfl (k133:E0.fn _=_) rfl];simp only[W.d,W.ds,PD,raw,LD,Ec]at*;generalize LL a=x1,LL b=x2,W.ds ps=x4,List.map Mo.d p=x3 at*;simp[f133,a79,t1]
  ·rw[hv]at t1;simp only[Qr2]at t1 ⊢;have hq:=tq ha hb hv;have hz:=wy ha hb 1000 la lb ae hv;obtain⟨n2,t2⟩:=(vZ (cz s a b) ae).any;obtain⟨n3,t3⟩:=(zh (cz s a b) 1 ae (by have:=yn;omega)).any;obtain⟨n4,t4⟩:=Lv.any;rw[Gv]at t3;rw[<-hq]at t2 t3;have e3:(!decide ((1:Rat)<cz s a b))=decide ((cz s a b-1).num.sign<=0):=by
    have:=(IK (cz s a b) 1).2;rw[<-decide_not]
    congr 1
    rw[<-this];simp only[Int.not_lt]
   rw[e3];clear e3 hq hz;generalize (cz s a b-1).num.sign=g2,(cz s a b).num.sign=g1,((c==0) && !i&&(u==0)&&p.isEmpty&&ps.isEmpty)=r2 at*;replace t1:=t1 (n1+n2+n3+n4) ae;replace t2:=t2 (n1+n2+n3+n4) ae;replace t3:=t3 (n1+n2+n3+n4) ae;replace t4:=t4 (n1+n2+n3+n4) ae;generalize n1+n2+n3+n4=N at*;refine Ca.bP (n:=N+90) ?_;rw[av rfl (k133:E0.fn _=_) rfl];simp only[W.d,W.ds,PD,raw,LD,Ec,ab1]at*;simp only[LL,Qe2,Qc1,Int.natCast_one]at t3;simp only[<-show ∀ l:List Nat,LL l=List.map (fun(x:Nat)=>D.v (Value.int IntKind.u32 (x:Int))) l from fun _=>rfl]at t3;generalize LL a=x1,LL b=x2,W.ds ps=x4,List.map Mo.d p=x3 at*;cases r2
   ·simp[f133,a79,t1]
   ·by_cases h1:0<=g1
    ·by_cases h2:g2<=0
     ·simp[f133,a79,t1,t2,t3,t4,h1,h2]
     ·simp[f133,a79,t1,t2,t3,t4,h1,h2]
    ·simp[f133,a79,t1,t2,h1]
theorem oC (ps:List W):(ps.isEmpty=true/\(W.ds ps).length=0)\/(ps.isEmpty=false/\∃ m,(W.ds ps).length=m+1):=by
 cases ps with
 | nil=>exact .inl ⟨rfl,rfl⟩
 | cons x r=>exact .inr ⟨rfl,(W.ds r).length,by simp[W.ds]⟩
theorem rz (p:List Mo):(p.isEmpty=true/\(p.map Mo.d).length=0)\/(p.isEmpty=false/\∃ m,(p.map Mo.d).length=m+1):=by
 cases p with
 | nil=>exact .inl ⟨rfl,rfl⟩
 | cons x r=>exact .inr ⟨rfl,r.length,aA⟩
theorem Lx (w:W)(hw:w.OK):Ca E0 66 [dI 1,.d w.d] (dB (fO 1 w),none):=by
 cases hw with
 | @mk s a b c i u p ps ha hb la lb hp lp h =>
  have hps:=oC ps;have hpo:=rz p;obtain⟨n1,t1⟩:=(mM s false a b [] [] ae ae aA aA).any;rw[wB]at t1;rw[fO,if_pos rfl];obtain⟨n2,t2⟩:=(sZ s a b ae ae ha hb).any;replace t1:=t1 (n1+n2) ae;replace t2:=t2 (n1+n2) ae;generalize n1+n2=N at*;refine Ca.bP (n:=N+90) ?_;rw[av rfl (k66:E0.fn _=_) rfl];generalize dS s a b=r2,q0 s a b=nn at*;simp only[W.d,PD,raw,LD]at*;generalize LL a=x1,LL b=x2,W.ds ps=x4,List.map Mo.d p=x3,ps.isEmpty=be,p.isEmpty=bp at*;simp only[LL,Qc1]at t1;have e1:(c != 0) = !(c==0):=rfl;have e2:(u != 0) = !(u==0):=rfl;rcases hps with ⟨rfl,hps⟩|⟨rfl,m,hps⟩
  ·skip
   cases i
   ·cases h3:(c==0)
    ·rw[h3]at e1;simp[f66,t1,hps,e1]
    ·rw[h3]at e1;cases h4:(u==0)
     ·rw[h4]at e2;simp[f66,t1,hps,e1,e2]
     ·rw[h4]at e2;rcases hpo with ⟨rfl,hpo⟩|⟨rfl,m,hpo⟩
      ·skip
       simp[f66,t1,hps,e1,e2,hpo,t2]
      ·simp[f66,t1,hps,e1,e2,hpo]
   ·simp[f66,t1,hps]
  ·simp[f66,t1,hps]
theorem LA (w:W)(hw:w.OK):Ca E0 66 [dI 2,.d w.d] (dB (fO 2 w),none):=by
 cases hw with
 | @mk s a b c i u p ps ha hb la lb hp lp h =>
  have hps:=oC ps;have hpo:=rz p;obtain⟨n1,t1⟩:=(mM s false a b [] [] ae ae aA aA).any;rw[wB]at t1;rw[fO,if_neg ae,if_pos rfl];replace t1:=t1 (n1) ae;replace t1:=t1;refine Ca.bP (n:=n1+90) ?_;rw[av rfl (k66:E0.fn _=_) rfl];generalize q0 s a b=nn at*;simp only[W.d,PD,raw,LD]at*;generalize LL a=x1,LL b=x2,W.ds ps=x4,List.map Mo.d p=x3,ps.isEmpty=be,p.isEmpty=bp at*;simp only[LL,Qc1]at t1;have e1:(c != 0) = !(c==0):=rfl;have e2:(u != 0) = !(u==0):=rfl;rcases hps with ⟨rfl,hps⟩|⟨rfl,m,hps⟩
  ·skip
   cases nn
   ·simp[f66,t1,hps]
   ·skip
    cases h4:(u==0)
    ·rw[h4]at e2;simp[f66,t1,hps,e2]
    ·rw[h4]at e2;rcases hpo with ⟨rfl,hpo⟩|⟨rfl,m,hpo⟩
     ·skip
      by_cases h1:0<=c
      ·by_cases h2:c<=1099511627776
       ·cases i
        ·simp[f66,t1,hps,e2,hpo,h1,h2]
        ·cases h3:(c==0)
         ·rw[h3]at e1;simp[f66,t1,hps,e2,hpo,h1,h2,e1]
         ·rw[h3]at e1;simp[f66,t1,hps,e2,hpo,h1,h2,e1]
       ·simp[f66,t1,hps,e2,hpo,h1,h2]
      ·simp[f66,t1,hps,e2,hpo,h1]
     ·simp[f66,t1,hps,e2,hpo]
  ·simp[f66,t1,hps]
theorem LB (w:W)(hw:w.OK):Ca E0 66 [dI 4,.d w.d] (dB (fO 4 w),none):=by
 cases hw with
 | @mk s a b c i u p ps ha hb la lb hp lp h =>
  have hps:=oC ps;have hpo:=rz p;obtain⟨n1,t1⟩:=(mM s false a b [] [] ae ae aA aA).any;rw[wB]at t1;rw[fO,if_neg ae,if_neg ae,if_neg ae,if_pos rfl];replace t1:=t1 (n1) ae;replace t1:=t1;refine Ca.bP (n:=n1+90) ?_;rw[av rfl (k66:E0.fn _=_) rfl];generalize q0 s a b=nn at*;simp only[W.d,PD,raw,LD]at*;generalize LL a=x1,LL b=x2,W.ds ps=x4,List.map Mo.d p=x3,ps.isEmpty=be,p.isEmpty=bp at*;simp only[LL,Qc1]at t1;have e1:(c != 0) = !(c==0):=rfl;have e2:(u != 0) = !(u==0):=rfl;rcases hps with ⟨rfl,hps⟩|⟨rfl,m,hps⟩
  ·skip
   cases nn
   ·simp[f66,t1,hps]
   ·skip
    cases i
    ·cases h3:(c==0)
     ·rw[h3]at e1;simp[f66,t1,hps,e1]
     ·rw[h3]at e1;rcases hpo with ⟨rfl,hpo⟩|⟨rfl,m,hpo⟩
      ·skip
       simp[f66,t1,hps,e1,hpo]
      ·simp[f66,t1,hps,e1,hpo]
    ·simp[f66,t1,hps]
  ·simp[f66,t1,hps]
theorem LF (w:W)(hw:w.OK):Ca E0 66 [dI 5,.d w.d] (dB (fO 5 w),none):=by
 cases hw with
 | @mk s a b c i u p ps ha hb la lb hp lp h =>
  have hps:=oC ps;have hpo:=rz p;obtain⟨n1,t1⟩:=(mM s false a b [] [] ae ae aA aA).any;rw[wB]at t1;rw[fO,if_neg ae,if_neg ae,if_neg ae,if_neg ae];obtain⟨n2,t2⟩:=(EJ p hp).any;replace t1:=t1 (n1+n2) ae;replace t2:=t2 (n1+n2) ae;generalize n1+n2=N at*;refine Ca.bP (n:=N+90) ?_;rw[av rfl (k66:E0.fn _=_) rfl];generalize zi none p=r2,q0 s a b=nn at*;simp only[W.d,PD,raw,LD]at*;generalize LL a=x1,LL b=x2,W.ds ps=x4,List.map Mo.d p=x3,ps.isEmpty=be,p.isEmpty=bp at*;simp only[LL,Qc1]at t1;have e1:(c != 0) = !(c==0):=rfl;have e2:(u != 0) = !(u==0):=rfl;rcases hps with ⟨rfl,hps⟩|⟨rfl,m,hps⟩
  ·skip
   cases nn
   ·simp[f66,t1,hps]
   ·skip
    cases i
    ·cases h3:(c==0)
     ·rw[h3]at e1;simp[f66,t1,hps,e1]
     ·rw[h3]at e1;cases h4:(u==0)
      ·rw[h4]at e2;simp[f66,t1,hps,e1,e2]
      ·rw[h4]at e2;simp[f66,t1,hps,e1,e2,t2]
    ·simp[f66,t1,hps]
  ·simp[f66,t1,hps]
theorem LG (w:W)(hw:w.OK):Ca E0 66 [dI 3,.d w.d] (dB (fO 3 w),none):=by
 cases hw with
 | @mk s a b c i u p ps ha hb la lb hp lp h =>
  have hps:=oC ps;have hpo:=rz p;obtain⟨n1,t1⟩:=(mM s false a b [] [] ae ae aA aA).any;rw[wB]at t1;obtain⟨n2,t2⟩:=(sZ s a b ae ae ha hb).any;rw[fO,if_neg ae,if_neg ae,if_pos rfl];obtain⟨n3,t3⟩:=(BB 1 1 ae ae ae).any;rw[NT,Gv]at t3;have hx:∃ n4,dS s a b=true->(∀ n,n4<=n->∀ k,CL E0 (n+k) 98 [.d (raw s a b)] []=some (dI (cz s a b).num.sign,none)) /\
    (∀ n,n4<=n->∀ k,CL E0 (n+k) 55 [.d (raw false [1] []),.d (raw s a b)] []=some (dB (decide ((1:Rat)<cz s a b)),none)):=by
   cases hv:dS s a b
   ·exact⟨0,fun h=>by cases h⟩
   ·have hq:=tq ha hb hv;have hz:=wy ha hb 1000 la lb ae hv;obtain⟨m1,s1⟩:=(mJ (cz s a b) ae).any;obtain⟨m2,s2⟩:=(IL 1 (cz s a b) (by have:=yn;omega) ae).any;rw[<-hq]at s1 s2;rw[Gv]at s2;exact⟨m1+m2,fun _=>⟨fun n hn k=>s1 n ae k,fun n hn k=>s2 n ae k⟩⟩
  obtain⟨n4,hx⟩:=hx;replace t1:=t1 (n1+n2+n3+n4) ae;replace t2:=t2 (n1+n2+n3+n4) ae;replace t3:=t3 (n1+n2+n3+n4) ae;have hx':dS s a b=true->(∀ k,CL E0 (n1+n2+n3+n4+k) 98 [.d (raw s a b)] []=some (dI (cz s a b).num.sign,none)) /\
    (∀ k,CL E0 (n1+n2+n3+n4+k) 55 [.d (raw false [1] []),.d (raw s a b)] []=some (dB (decide ((1:Rat)<cz s a b)),none)):=fun hv=>⟨(hx hv).1 _ ae,(hx hv).2 _ ae⟩
  clear hx;generalize n1+n2+n3+n4=N at*;refine Ca.bP (n:=N+90) ?_;rw[av rfl (k66:E0.fn _=_) rfl];generalize dS s a b=r2,q0 s a b=nn,(cz s a b).num.sign=g1 at*;generalize decide ((1:Rat)<cz s a b)=g2 at*;simp only[W.d,PD,raw,LD]at*;have e11:LL [1]=[D.v (.int .u32 1)]:=rfl;have e12:LL []=[]:=rfl;simp only[e11,e12]at t1 t3 hx';generalize LL a=x1,LL b=x2,W.ds ps=x4,List.map Mo.d p=x3,ps.isEmpty=be,p.isEmpty=bp at*;have e1:(c != 0) = !(c==0):=rfl;have e2:(u != 0) = !(u==0):=rfl;rcases hps with ⟨rfl,hps⟩|⟨rfl,m,hps⟩
  ·cases i
   ·cases h3:(c==0)
    ·rw[h3]at e1;simp[f66,t1,hps,e1]
    ·rw[h3]at e1;cases h4:(u==0)
     ·rw[h4]at e2;simp[f66,t1,hps,e1,e2]
     ·rw[h4]at e2;rcases hpo with ⟨rfl,hpo⟩|⟨rfl,m,hpo⟩
      ·cases r2
       ·simp[f66,t1,hps,e1,e2,hpo,t2]
       ·obtain⟨hx1,hx2⟩:=hx' rfl
        by_cases hg:0<=g1
        ·cases g2
         ·simp[f66,t1,hps,e1,e2,hpo,t2,t3,hx1,hx2,hg]
         ·simp[f66,t1,hps,e1,e2,hpo,t2,t3,hx1,hx2,hg]
        ·simp[f66,t1,hps,e1,e2,hpo,t2,hx1,hg]
      ·simp[f66,t1,hps,e1,e2,hpo]
   ·simp[f66,t1,hps]
  ·simp[f66,t1,hps]
theorem EM (k:Int)(hk:single k=true)(w:W)(hw:w.OK):Ca E0 66 [dI k,.d w.d] (dB (fO k w),none):=by
 have:k=1\/k=2\/k=3\/k=4\/k=5:=by
  simp only[single,Qb1,decide_eq_true_eq]at hk;omega
 rcases this with rfl|rfl|rfl|rfl|rfl
 ·exact Lx w hw
 ·exact LA w hw
 ·exact LG w hw
 ·exact LB w hw
 ·exact LF w hw
def rA:FV:=.d (.a [(.fn 149),(.fn 151),(.fn 152),(.fn 154),(.fn 156),(.fn 158),(.fn 118),(.fn 160),(.fn 163)])
def rC:FV:=.d Ec
def pG:List FV:=[(.d (.fn 122)),(.d (.fn 123)),(.d (.fn 124)),(.d (.fn 125)),(.d (.fn 127)),(.f 195 [] [(.r (.old 3) 0)]),(.d (.fn 126)),(.d (.fn 128)),(.f 131 [] [(.r (.old 2) 0)])]
def uT:FV:=.a pG
def rD:List ah:=[.box pG,.box pG,.box pG,.box [(.d (.fn 124))]]
def pI:List FV:=[(.d (.fn 133)),(.d (.fn 110)),(.d (.fn 111)),(.f 137 [] [(.r (.old 2) 0)]),(.d (.fn 115)),(.f 195 [] [(.r (.old 3) 0)]),(.d (.fn 136)),(.d (.fn 119)),(.f 138 [] [(.r (.old 2) 0)])]
def uU:FV:=.a pI
def rE:List ah:=[.box pI,.box pI,.box pI,.box [(.d (.fn 111))]]
def pJ:List FV:=[(.d (.fn 139)),(.d (.fn 140)),(.d (.fn 141)),(.d (.fn 142)),(.d (.fn 143)),(.f 195 [] [(.r (.old 3) 0)]),(.d (.fn 118)),(.d (.fn 144)),(.f 147 [] [(.r (.old 2) 0)])]
def uV:FV:=.a pJ
def rF:List ah:=[.box pJ,.box pJ,.box pJ,.box [(.d (.fn 141))]]
theorem BH:cu E0 60 42 [dI 1] []=some (rC,none):=by kernel_rfl
theorem BI:cu E0 60 42 [dI 5] []=some (rA,none):=by kernel_rfl
theorem BJ:cu E0 60 42 [dI 2] []=some (uT,some rD):=by kernel_rfl
theorem BK:cu E0 60 42 [dI 3] []=some (uU,some rE):=by kernel_rfl
theorem BL:cu E0 60 42 [dI 4] []=some (uV,some rF):=by kernel_rfl
theorem uC {N g:Nat}{args:List FV}{r:FV × Option (List ah)}(h:cu E0 N g args []=some r)(m:Nat)(hm:N<=m):CL E0 m g args []=some r:=by rw[jy];exact yo h hm
def BM (k:Int):Nat:=if k=1 then 108 else if k=2 then 122 else if k=3 then 133 else if k=4 then 139 else 149
theorem aO {k:Int}(hk:single k=true):k=1\/k=2\/k=3\/k=4\/k=5:=by
 simp only[single,Qb1,decide_eq_true_eq]at hk;omega
theorem TN (k:Int)(hk:single k=true)(w:W)(hw:w.OK):Ca E0 (BM k) [.d w.d] (dB (fO k w),none):=by
 rcases aO hk with rfl|rfl|rfl|rfl|rfl
 ·exact NS w hw
 ·exact YB w hw
 ·exact YE w hw
 ·exact YC w hw
 ·exact YD w hw
def W.ps:W->List W
 | .mk _ _ _ _ _ _ _ ps=>ps
def W.bare:W->Bool
 | .mk s a b c i u p _=>q0 s a b&&(c==0) && !i&&(u==0)&&p.isEmpty
def um:List Int->List W->Bool
 | k::r,w::s=>fO k w&&um r s
 | _,_=>true
def cZ (k:Int)(ps:List Int)(w:W):Bool:=aK k ps&&(if k≠6 then fO k w else(w.ps.length==ps.length)&&w.bare&&um ps w.ps)
mutual
theorem W.NU:∀ w:W,w.eq w=true
 | .mk s a b c i u p ps=>by
  simp only[W.eq,BF EL,W.wC ps];simp
theorem W.wC:∀ l:List W,W.eqs l l=true
 | []=>rfl
 | w::r=>by simp[W.eqs,W.NU w,W.wC r]
end
theorem eq_bare (s:Bool)(a b:List Nat)(c:Int)(i:Bool)(u:Int)(p:List Mo)(ps:List W):W.eq (.mk s a b c i u p ps) (.mk false [] [] 0 false 0 [] ps)=W.bare (.mk s a b c i u p ps):=by
 simp only[W.eq,Au,W.wC,wB,W.bare];cases i<;>simp
theorem TQ (s:Bool)(a b:List Nat)(c:Int)(i:Bool)(u:Int)(p:List Mo)(ps:List W):W.eq (.mk false [] [] 0 false 0 [] ps) (.mk s a b c i u p ps)=W.bare (.mk s a b c i u p ps):=by
 have e1:(false==s&&decide ([]=a)&&decide ([]=b))=q0 s a b:=by
  unfold q0;have h1:decide (([]:List Nat)=a)=decide (a=[]):=by congr 1;exact propext ⟨fun h=>h.symm,fun h=>h.symm⟩
  have h2:decide (([]:List Nat)=b)=decide (b=[]):=by congr 1;exact propext ⟨fun h=>h.symm,fun h=>h.symm⟩
  rw[h1,h2];cases s<;>rfl
 have e2:∀ l:List Mo,kT Mo.eq [] l=l.isEmpty:=by intro l;cases l<;>rfl
 have e3:∀ x:Int,((0:Int)==x)=(x==0):=by
  intro x
  by_cases h:x=0
  ·rw[h]
  ·rw[beq_eq_false_iff_ne.2 h,beq_eq_false_iff_ne.2 (Ne.symm h)]
 simp only[W.eq,e1,e2,e3,W.wC,W.bare];cases i<;>simp
def LH:aF:=f18.body.r.r.r.r.l.r.bl.lp
def Xy (rb:ah)(wb:List FV)(ks:List Int)(j:Nat)(bs:List ah)(t:FV):St:=(st0 [.u,.u,.u,rL 1,.u,.u,.u,.u,.u,.u,.d (.s 1 (LK .i64 ks)),dI ks.length,dI j,t,.u] (rb::.box wb::bs))
def ckF (rb:ah)(wb:List FV)(bs:List ah):St:=(st0 (.u::.u::.u::.u::dB false::qP) (rb::.box wb::bs))
theorem TR (rb:ah)(p1 p2 p3 p4 p5 p6 p7:D)(ws:List W)(ks:List Int)(j:Nat)(bs:List ah)(k:Int)(w:W)(hl:ks.length<=1000000)(hk:ks[j]?=some k)(hw:ws[j]?=some w)(hs:single k=true)(ok:w.OK) :
  ∃ bs',Ex E0 LH (Xy rb [.d p1,.d p2,.d p3,.d p4,.d p5,.d p6,.d p7,.d (.s 8 (W.ds ws))] ks j bs .u)
   (if fO k w then(.norm,Xy rb [.d p1,.d p2,.d p3,.d p4,.d p5,.d p6,.d p7,.d (.s 8 (W.ds ws))] ks (j+1) bs' .u) else(.ret,ckF rb [.d p1,.d p2,.d p3,.d p4,.d p5,.d p6,.d p7,.d (.s 8 (W.ds ws))] bs')):=by
 have hj:=(bq hk)
 have hj2:=(bq hw)
 obtain⟨n1,t1⟩:=(TN k hs w ok).any;replace t1:=t1 (n1+60) ae;have n1':(LK .i64 ks).length=ks.length:=by simp[LK]
 have PN:(W.ds ws).length=ws.length:=by simp[W.h_]
 have e1:(LK .i64 ks)[j]?=some (vI k):=by simp[LK,hk]
 have e2:(W.ds ws)[j]?=some w.d:=by simp[W.h_,hw]
 have aR:ai .i64 ((j:Int)+1)=(j:Int)+1:=wrap_i64 ae;have hk1:((j+1:Nat):Int)=(j:Int)+1:=ae;have hk0:(0:Int)<=(j:Int):=ae;obtain⟨vv,hvv⟩:∃ vv,fO k w=vv:=⟨_,rfl⟩
 rw[hvv]at t1 ⊢;obtain⟨sx,ax,bx,cx,ix,ux,px,Lt⟩:=w;simp only[W.d,PD,LD]at*;generalize LL ax=x1,LL bx=x2,List.map Mo.d px=x5,W.ds Lt=x7 at*;unfold Xy ckF;rw[hk1];generalize W.ds ws=es2 at*;have i2:=idx e2;have five:=aO hs;clear hs ok hvv hw;rcases five with rfl|rfl|rfl|rfl|rfl
 ·have t2:=fun m=>uC BH (n1+60+m) ae
  have hF:BM 1=108:=rfl;rw[hF]at t1;clear hk;generalize LK .i64 ks=es1 at*;have i1:=idx e1;generalize n1+60=N at*;refine⟨bs,Ex.of (n:=N+300) ?_⟩;simp only[rC,Ec]at t2 ⊢;cases vv
  ·simp[LH,f18,hj,hj2,hk0,i1,i2,n1',PN,t1,t2]
  ·simp[LH,f18,hj,hj2,hk0,i1,i2,n1',PN,t1,t2,aR]
 ·have t2:=fun m=>uC BJ (n1+60+m) ae
  have hF:BM 2=122:=rfl;rw[hF]at t1;clear hk;generalize LK .i64 ks=es1 at*;have i1:=idx e1;generalize n1+60=N at*;refine⟨bs++rD.map (ah.shift (bs.length+2)),Ex.of (n:=N+300) ?_⟩;simp only[uT,pG,rD]at t2 ⊢;cases vv
  ·simp[LH,f18,hj,hj2,hk0,i1,i2,n1',PN,t1,t2]
  ·simp[LH,f18,hj,hj2,hk0,i1,i2,n1',PN,t1,t2,aR]
 ·have t2:=fun m=>uC BK (n1+60+m) ae
  have hF:BM 3=133:=rfl;rw[hF]at t1;clear hk;generalize LK .i64 ks=es1 at*;have i1:=idx e1;generalize n1+60=N at*;refine⟨bs++rE.map (ah.shift (bs.length+2)),Ex.of (n:=N+300) ?_⟩;simp only[uU,pI,rE]at t2 ⊢;cases vv
  ·simp[LH,f18,hj,hj2,hk0,i1,i2,n1',PN,t1,t2]
  ·simp[LH,f18,hj,hj2,hk0,i1,i2,n1',PN,t1,t2,aR]
 ·have t2:=fun m=>uC BL (n1+60+m) ae
  have hF:BM 4=139:=rfl;rw[hF]at t1;clear hk;generalize LK .i64 ks=es1 at*;have i1:=idx e1;generalize n1+60=N at*;refine⟨bs++rF.map (ah.shift (bs.length+2)),Ex.of (n:=N+300) ?_⟩;simp only[uV,pJ,rF]at t2 ⊢;cases vv
  ·simp[LH,f18,hj,hj2,hk0,i1,i2,n1',PN,t1,t2]
  ·simp[LH,f18,hj,hj2,hk0,i1,i2,n1',PN,t1,t2,aR]
 ·have t2:=fun m=>uC BI (n1+60+m) ae
  have hF:BM 5=149:=rfl;rw[hF]at t1;clear hk;have i1:=idx e1;generalize n1+60=N at*;refine⟨bs,Ex.of (n:=N+300) ?_⟩;simp only[rA]at t2 ⊢;cases vv
  ·simp[LH,f18,hj,hj2,hk0,i1,i2,n1',PN,t1,t2]
  ·simp[LH,f18,hj,hj2,hk0,i1,i2,n1',PN,t1,t2,aR]
theorem YF (rb:ah)(p1 p2 p3 p4 p5 p6 p7:D)(ws:List W)(ks:List Int)(hl:ks.length<=1000000)(he:ws.length=ks.length)(hs:ks.all single=true)(ok:∀ w ∈ ws,w.OK) :
  ∃ r,Ex E0 (.loop LH) (Xy rb [.d p1,.d p2,.d p3,.d p4,.d p5,.d p6,.d p7,.d (.s 8 (W.ds ws))] ks 0 [] .u) r /\
   ((um ks ws=true/\∃ bs,r=(.exit 0,Xy rb [.d p1,.d p2,.d p3,.d p4,.d p5,.d p6,.d p7,.d (.s 8 (W.ds ws))] ks ks.length bs (dB false))) \/
    (um ks ws=false/\∃ bs,r=(.ret,ckF rb [.d p1,.d p2,.d p3,.d p4,.d p5,.d p6,.d p7,.d (.s 8 (W.ds ws))] bs))):=by
 refine Ex.inv (S:=fun t:Nat × List ah=>Xy rb [.d p1,.d p2,.d p3,.d p4,.d p5,.d p6,.d p7,.d (.s 8 (W.ds ws))] ks t.1 t.2 .u) (fun t=>ks.length-t.1) (fun t=>t.1<=ks.length/\um ks ws=um (ks.drop t.1) (ws.drop t.1)) _ ?_ (0,[]) ⟨aA,aA⟩;rintro⟨j,bs⟩ ⟨q1,q2⟩;simp only at q1 q2
 by_cases hj:j<ks.length
 ·have hk:ks[j]?=some (ks[j]'hj):=Qa1 hj;have hw:ws[j]?=some (ws[j]'(by omega)):=Qa1 ae;have d1:ks.drop j=ks[j]'hj::ks.drop (j+1):=Qk1 hj;have d2:ws.drop j=ws[j]'(by omega)::ws.drop (j+1):=Qk1 ae;obtain⟨bs',hr⟩:=TR rb p1 p2 p3 p4 p5 p6 p7 ws ks j bs _ _ hl hk hw (Qh2.1 hs _ (Qi0 hj)) (ok _ (Qi0 ae));rw[d1,d2]at q2;simp only[um]at q2;cases hv:fO (ks[j]'hj) (ws[j]'(by omega))
  ·rw[hv]at hr q2;exact .inr ⟨_,hr,aA,.inr ⟨by simpa using q2,bs',rfl⟩⟩
  ·rw[hv]at hr q2;exact .inl ⟨(j+1,bs'),hr,by simp only;omega,by simp only;omega,by simpa using q2⟩
 ·have jl:j=ks.length:=ae;subst jl;rw[Qu2]at q2;refine .inr ⟨_,Ex.of (n:=60) ?_,?_,.inl ⟨by rw[q2];rfl,bs,rfl⟩⟩
  ·unfold Xy;generalize W.ds ws=l2,ks.length=m at*;simp[LH,f18]
  ·simp
theorem PO (ps:List Int)(w:W)(hl:ps.length<=1000000)(hw:w.OK)(wE:aK 6 ps=true)(hv:∀ n,CL E0 (n+500) 31 [.d (aT 6 ps)] []=some (dB true,none)) :
  Ca E0 18 [.d (aT 6 ps),.d w.d] (dB ((w.ps.length==ps.length)&&w.bare&&um ps w.ps),none):=by
 have hs:ps.all single=true:=by
  unfold aK at wE;rw[if_neg aA]at wE;simp only[Qb1]at wE;exact wE.2
 have ok:=hw;cases hw with
 | @mk s a b c i u p ws ha hb la lb hp lp hok =>
  simp only[W.ps];have n1:(LK .i64 ps).length=ps.length:=by simp[LK]
  have n2:(W.ds ws).length=ws.length:=by simp[W.h_]
  obtain⟨N,t⟩:=(oz _ ok _ (.mk (s:=false) (a:=[]) (b:=[]) (c:=0) (i:=false) (u:=0) (p:=[]) kK kK aA aA BG lp hok)).any;rw[eq_bare]at t;generalize hbare:W.bare (.mk s a b c i u p ws)=bare at*
  by_cases hlen:ws.length=ps.length
  ·have hl1:(ws.length==ps.length)=true:=by simpa using hlen
   have hne:((ws.length:Int) != (ps.length:Int))=false:=by simp;omega
   rw[hl1,Qr2];cases hbb:bare
   ·rw[hbb]at t;rw[Q31];replace t:=t N ae;refine Ca.bP (n:=N+700) ?_;rw[av rfl (k18:E0.fn _=_) rfl];have hv':=fun n=>hv (N+n)
    simp only[W.d,W.ds,PD,LD,aT]at*;generalize LL a=x1,LL b=x2 at*;simp only[LL,Qc1]at*;generalize List.map Mo.d p=x5,W.ds ws=x7,LK .i64 ps=l1 at*;simp[f18,hv,t,n1,n2,hne]
   ·rw[hbb]at t;rw[Qr2];obtain⟨r,hr,hq⟩:=YF (.box [dI 6,.d (.s 1 (LK .i64 ps))]) (vB s) (LD a) (LD b) (vI c) (vB i) (.v (.int .u64 u)) (PD p) ws ps hl hlen hs hok;replace t:=t N ae;have hA:Ex E0 f18.body.l (st0 (.d (aT 6 ps)::.d (W.mk s a b c i u p ws).d::F5) [])
      (.norm,(st0 (.u::.u::rL 0::rL 1::KQ) [.box [dI 6,.d (.s 1 (LK .i64 ps))],.box [dB s,.d (LD a),.d (LD b),dI c,dB i,.d (.v (.int .u64 u)),.d (PD p),.d (.s 8 (W.ds ws))]])):=by
     refine Ex.of (n:=40) ?_;simp only[W.d,PD,LD,aT];generalize LL a=x1,LL b=x2,List.map Mo.d p=x5,W.ds ws=x7,LK .i64 ps=l1 at*;simp[f18]
    have hB:Ex E0 f18.body.r.l (st0 (.u::.u::rL 0::rL 1::KQ) [.box [dI 6,.d (.s 1 (LK .i64 ps))],.box [dB s,.d (LD a),.d (LD b),dI c,dB i,.d (.v (.int .u64 u)),.d (PD p),.d (.s 8 (W.ds ws))]])
      (.norm,(st0 (.u::.u::rL 0::rL 1::.u::.u::.u::dB false::sO) [.box [dI 6,.d (.s 1 (LK .i64 ps))],.box [dB s,.d (LD a),.d (LD b),dI c,dB i,.d (.v (.int .u64 u)),.d (PD p),.d (.s 8 (W.ds ws))]])):=by
     clear hr hq hA;refine Ex.of (n:=600) ?_;simp only[PD,LD,aT]at hv ⊢;generalize LL a=x1,LL b=x2,List.map Mo.d p=x5,W.ds ws=x7,LK .i64 ps=l1 at*;simp[f18,hv]
    have hC:Ex E0 f18.body.r.r.l (st0 (.u::.u::rL 0::rL 1::.u::.u::.u::dB false::sO) [.box [dI 6,.d (.s 1 (LK .i64 ps))],.box [dB s,.d (LD a),.d (LD b),dI c,dB i,.d (.v (.int .u64 u)),.d (PD p),.d (.s 8 (W.ds ws))]])
      (.norm,(st0 (.u::.u::rL 0::rL 1::.u::.u::.u::.u::dB false::qO) [.box [dI 6,.d (.s 1 (LK .i64 ps))],.box [dB s,.d (LD a),.d (LD b),dI c,dB i,.d (.v (.int .u64 u)),.d (PD p),.d (.s 8 (W.ds ws))]])):=by
     apply e6;simp only[PD,LD];generalize LL a=x1,LL b=x2,List.map Mo.d p=x5,W.ds ws=x7,LK .i64 ps=l1 at*;simp[f18]
    have hD:Ex E0 f18.body.r.r.r.l (st0 (.u::.u::rL 0::rL 1::.u::.u::.u::.u::dB false::qO) [.box [dI 6,.d (.s 1 (LK .i64 ps))],.box [dB s,.d (LD a),.d (LD b),dI c,dB i,.d (.v (.int .u64 u)),.d (PD p),.d (.s 8 (W.ds ws))]])
      (.norm,(st0 [.u,.u,rL 0,rL 1,.u,.u,.u,.u,.u,dB false,.u,.u,.u,.u,.u] [.box [dI 6,.d (.s 1 (LK .i64 ps))],.box [dB s,.d (LD a),.d (LD b),dI c,dB i,.d (.v (.int .u64 u)),.d (PD p),.d (.s 8 (W.ds ws))]])):=by
     clear hr hq hA hB hC hv;refine Ex.of (n:=N+90) ?_;simp only[W.d,PD,LD,W.ds]at t ⊢;generalize LL a=x1,LL b=x2 at*;simp only[LL,Qc1]at t;generalize List.map Mo.d p=x5,W.ds ws=x7,LK .i64 ps=l1 at*;simp[f18,t,n1,n2,hne]
    have hE:Ex E0 f18.body.r.r.r.r.l.l (st0 [.u,.u,rL 0,rL 1,.u,.u,.u,.u,.u,dB false,.u,.u,.u,.u,.u] [.box [dI 6,.d (.s 1 (LK .i64 ps))],.box [dB s,.d (LD a),.d (LD b),dI c,dB i,.d (.v (.int .u64 u)),.d (PD p),.d (.s 8 (W.ds ws))]])
      (.norm,Xy (.box [dI 6,.d (.s 1 (LK .i64 ps))]) [dB s,.d (LD a),.d (LD b),dI c,dB i,.d (.v (.int .u64 u)),.d (PD p),.d (.s 8 (W.ds ws))] ps 0 [] .u):=by
     apply e6;unfold Xy;simp only[PD,LD];generalize LL a=x1,LL b=x2,List.map Mo.d p=x5,W.ds ws=x7,LK .i64 ps=l1 at*;simp[f18,n1]
    rcases hq with ⟨hall,bs,rfl⟩|⟨hall,bs,rfl⟩
    ·rw[hall];refine Ca.body (o:=.ret) (st1:=(st0 (.u::.u::.u::.u::dB true::qP) (.box [dI 6,.d (.s 1 (LK .i64 ps))]::.box [dB s,.d (LD a),.d (LD b),dI c,dB i,.d (.v (.int .u64 u)),.d (PD p),.d (.s 8 (W.ds ws))]::bs))) rfl (k18:E0.fn _=_) rfl ?_ (by intro id h;cases h) ?_
     ·show Ex E0 (.seq f18.body.l (.seq f18.body.r.l (.seq f18.body.r.r.l (.seq f18.body.r.r.r.l (.seq (.seq f18.body.r.r.r.r.l.l (.block 0 (.loop LH))) f18.body.r.r.r.r.r))))) _ _;refine hA.seq (hB.seq (hC.seq (hD.seq ((hE.seq hr.block).seq (Ex.of (n:=40) ?_)))));unfold Xy;generalize LK .i64 ps=l1 at*;simp[f18]
     ·simp[f18]
    ·rw[hall];refine Ca.body (o:=.ret) (st1:=ckF (.box [dI 6,.d (.s 1 (LK .i64 ps))]) [dB s,.d (LD a),.d (LD b),dI c,dB i,.d (.v (.int .u64 u)),.d (PD p),.d (.s 8 (W.ds ws))] bs) rfl (k18:E0.fn _=_) rfl ?_ (by intro id h;cases h) ?_
     ·show Ex E0 (.seq f18.body.l (.seq f18.body.r.l (.seq f18.body.r.r.l (.seq f18.body.r.r.r.l (.seq (.seq f18.body.r.r.r.r.l.l (.block 0 (.loop LH))) f18.body.r.r.r.r.r))))) _ _;exact hA.seq (hB.seq (hC.seq (hD.seq (hE.seq hr.dA).dX)))
     ·simp[f18,ckF]
  ·have hl1:(ws.length==ps.length)=false:=by simpa using hlen
   have hne:((ws.length:Int) != (ps.length:Int))=true:=by simp;omega
   rw[hl1,Q31,Q31];refine Ca.bP (n:=700) ?_;rw[av rfl (k18:E0.fn _=_) rfl];simp only[W.d,PD,LD,aT]at*;generalize LL a=x1,LL b=x2,List.map Mo.d p=x5,W.ds ws=x7 at*;simp[f18,hv,n1,n2,hne]
theorem PQ (k:Int)(ps:List Int)(w:W)(hk:k≠6)(hw:w.OK)(wE:aK k ps=true)(hv:∀ n,CL E0 (n+500) 31 [.d (aT k ps)] []=some (dB true,none)) :
  Ca E0 18 [.d (aT k ps),.d w.d] (dB (fO k w),none):=by
 have hne:(k != 6)=true:=by simpa using hk
 have hs:single k=true:=by
  unfold aK at wE;rw[if_pos hk]at wE;simp only[Qb1]at wE;exact wE.1
 obtain⟨n1,t1⟩:=(TN k hs w hw).any;replace t1:=t1 (n1+600) ae;have hv':∀ m,CL E0 (n1+600+m) 31 [.d (aT k ps)] []=some (dB true,none):=fun m=>by
  have:=hv (n1+100+m)
  rwa [show n1+100+m+500=n1+600+m by omega]at this
 clear hv;generalize fO k w=vv at*;clear wE hw;obtain⟨sx,ax,bx,cx,ix,ux,px,Lt⟩:=w;simp only[W.d,PD,LD,aT]at*;generalize LL ax=x1,LL bx=x2,List.map Mo.d px=x5,W.ds Lt=x7 at*;rcases aO hs with rfl|rfl|rfl|rfl|rfl
 ·have t2:=fun m=>uC BH (n1+600+m) ae
  have hF:BM 1=108:=rfl;rw[hF]at t1;generalize n1+600=N at*;refine Ca.bP (n:=N+90) ?_;rw[av rfl (k18:E0.fn _=_) rfl];simp only[rC,Ec]at t2;generalize LK .i64 ps=l1 at*;simp[f18,hv',t1,t2]
 ·have t2:=fun m=>uC BJ (n1+600+m) ae
  have hF:BM 2=122:=rfl;rw[hF]at t1;generalize n1+600=N at*;refine Ca.bP (n:=N+90) ?_;rw[av rfl (k18:E0.fn _=_) rfl];simp only[uT,pG,rD]at t2;generalize LK .i64 ps=l1 at*;simp[f18,hv',t1,t2]
 ·have t2:=fun m=>uC BK (n1+600+m) ae
  have hF:BM 3=133:=rfl;rw[hF]at t1;generalize n1+600=N at*;refine Ca.bP (n:=N+90) ?_;rw[av rfl (k18:E0.fn _=_) rfl];simp only[uU,pI,rE]at t2;generalize LK .i64 ps=l1 at*;simp[f18,hv',t1,t2]
 ·have t2:=fun m=>uC BL (n1+600+m) ae
  have hF:BM 4=139:=rfl;rw[hF]at t1;generalize n1+600=N at*;refine Ca.bP (n:=N+90) ?_;rw[av rfl (k18:E0.fn _=_) rfl];simp only[uV,pJ,rF]at t2;generalize LK .i64 ps=l1 at*;simp[f18,hv',t1,t2]
 ·have t2:=fun m=>uC BI (n1+600+m) ae
  have hF:BM 5=149:=rfl;rw[hF]at t1;generalize n1+600=N at*;refine Ca.bP (n:=N+90) ?_;rw[av rfl (k18:E0.fn _=_) rfl];simp only[rA]at t2;simp[f18,hv',t1,t2]
theorem BN (k:Int)(ps:List Int)(w:W)(hl:ps.length<=1000000)(hw:w.OK):Ca E0 18 [.d (aT k ps),.d w.d] (dB (cZ k ps w),none):=by
 have hv:=fun n=>pF n k ps
 unfold cZ;cases wE:aK k ps
 ·rw[wE]at hv;rw[Q31];refine Ca.bP (n:=600) ?_;rw[av rfl (k18:E0.fn _=_) rfl];obtain⟨sx,ax,bx,cx,ix,ux,px,Lt⟩:=w;simp only[W.d,PD,LD,aT]at*;generalize LL ax=x1,LL bx=x2,List.map Mo.d px=x5,W.ds Lt=x7 at*;simp[f18,hv]
 ·rw[wE]at hv;rw[Qr2]
  by_cases hk:k=6
  ·subst hk;rw[if_neg aA];exact PO ps w hl hw wE hv
  ·rw[if_pos hk];exact PQ k ps w hk hw wE hv
def wcB:aF:=f29.body.r.r.r.r.l.r.bl.lp
def Xz (k:Int)(ks:List Int)(wb:List FV)(j:Nat)(t:FV):St:=(st0 [.u,.u,rL 0,rL 1,.u,dI j,.u,.u,.u,t,.u] [.box [dI k,.d (.s 1 (LK .i64 ks))],.box wb])
def wcF (k:Int)(ks:List Int)(wb:List FV):St:=(st0 (.u::.u::.u::.u::dB false::qO) [.box [dI k,.d (.s 1 (LK .i64 ks))],.box wb])
theorem TS (k0:Int)(p1 p2 p3 p4 p5 p6 p7:D)(ws:List W)(ks:List Int)(j:Nat)(k:Int)(w:W)(hl:ks.length<=1000000)(hk:ks[j]?=some k)(hw:ws[j]?=some w)(hs:single k=true)(ok:w.OK) :
  Ex E0 wcB (Xz k0 ks [.d p1,.d p2,.d p3,.d p4,.d p5,.d p6,.d p7,.d (.s 8 (W.ds ws))] j .u)
   (if fO k w then(.norm,Xz k0 ks [.d p1,.d p2,.d p3,.d p4,.d p5,.d p6,.d p7,.d (.s 8 (W.ds ws))] (j+1) .u) else(.ret,wcF k0 ks [.d p1,.d p2,.d p3,.d p4,.d p5,.d p6,.d p7,.d (.s 8 (W.ds ws))])):=by
 have hj:=(bq hk)
 have hj2:=(bq hw)
 obtain⟨N,t1⟩:=(EM k hs w ok).get;have n1':(LK .i64 ks).length=ks.length:=by simp[LK]
 have PN:(W.ds ws).length=ws.length:=by simp[W.h_]
 have e1:(LK .i64 ks)[j]?=some (vI k):=by simp[LK,hk]
 have e2:(W.ds ws)[j]?=some w.d:=by simp[W.h_,hw]
 have aR:ai .i64 ((j:Int)+1)=(j:Int)+1:=wrap_i64 ae;have hk1:((j+1:Nat):Int)=(j:Int)+1:=ae;have hk0:(0:Int)<=(j:Int):=ae;generalize fO k w=vv at*;clear hs ok hw hk;obtain⟨sx,ax,bx,cx,ix,ux,px,Lt⟩:=w;simp only[W.d,PD,LD]at*;generalize LL ax=x1,LL bx=x2,List.map Mo.d px=x5,W.ds Lt=x7 at*;refine Ex.of (n:=N+90) ?_;unfold Xz wcF;rw[hk1];generalize W.ds ws=es2 at*;have i1:=idx e1;have i2:=idx e2;cases vv
 ·simp[wcB,f29,hj,hj2,hk0,e1,e2,i1,i2,n1',PN,t1]
 ·simp[wcB,f29,hj,hj2,hk0,e1,e2,i1,i2,n1',PN,t1,aR]
theorem YG (k0:Int)(p1 p2 p3 p4 p5 p6 p7:D)(ws:List W)(ks:List Int)(hl:ks.length<=1000000)(he:ws.length=ks.length)(hs:ks.all single=true)(ok:∀ w ∈ ws,w.OK) :
  ∃ r,Ex E0 (.loop wcB) (Xz k0 ks [.d p1,.d p2,.d p3,.d p4,.d p5,.d p6,.d p7,.d (.s 8 (W.ds ws))] 0 .u) r /\
   ((um ks ws=true/\r=(.exit 0,Xz k0 ks [.d p1,.d p2,.d p3,.d p4,.d p5,.d p6,.d p7,.d (.s 8 (W.ds ws))] ks.length (dB false))) \/
    (um ks ws=false/\r=(.ret,wcF k0 ks [.d p1,.d p2,.d p3,.d p4,.d p5,.d p6,.d p7,.d (.s 8 (W.ds ws))]))):=by
 refine Ex.inv (S:=fun j:Nat=>Xz k0 ks [.d p1,.d p2,.d p3,.d p4,.d p5,.d p6,.d p7,.d (.s 8 (W.ds ws))] j .u) (fun j=>ks.length-j) (fun j=>j<=ks.length/\um ks ws=um (ks.drop j) (ws.drop j)) _ ?_ 0 ⟨aA,aA⟩;rintro j ⟨q1,q2⟩
 by_cases hj:j<ks.length
 ·have hk:ks[j]?=some (ks[j]'hj):=Qa1 hj;have hw:ws[j]?=some (ws[j]'(by omega)):=Qa1 ae;have d1:ks.drop j=ks[j]'hj::ks.drop (j+1):=Qk1 hj;have d2:ws.drop j=ws[j]'(by omega)::ws.drop (j+1):=Qk1 ae;have hr:=TS k0 p1 p2 p3 p4 p5 p6 p7 ws ks j _ _ hl hk hw (Qh2.1 hs _ (Qi0 hj)) (ok _ (Qi0 ae));rw[d1,d2]at q2;simp only[um]at q2;cases hv:fO (ks[j]'hj) (ws[j]'(by omega))
  ·rw[hv]at hr q2;exact .inr ⟨_,hr,aA,.inr ⟨by simpa using q2,rfl⟩⟩
  ·rw[hv]at hr q2;exact .inl ⟨j+1,hr,ae,ae,by simpa using q2⟩
 ·have jl:j=ks.length:=ae;subst jl;have n1':(LK .i64 ks).length=ks.length:=by simp[LK]
  rw[Qu2]at q2;refine .inr ⟨_,Ex.of (n:=60) ?_,?_,.inl ⟨by rw[q2];rfl,rfl⟩⟩
  ·unfold Xz;generalize W.ds ws=l2,ks.length=m at*;simp[wcB,f29,n1']
  ·simp
theorem LJ (ps:List Int)(w:W)(hl:ps.length<=1000000)(hw:w.OK)(wE:aK 6 ps=true)(hv:∀ n,CL E0 (n+500) 28 [.d (aT 6 ps)] []=some (dB true,none)) :
  Ca E0 29 [.d (aT 6 ps),.d w.d] (dB ((w.ps.length==ps.length)&&w.bare&&um ps w.ps),none):=by
 have hs:ps.all single=true:=by
  unfold aK at wE;rw[if_neg aA]at wE;simp only[Qb1]at wE;exact wE.2
 have ok:=hw;cases hw with
 | @mk s a b c i u p ws ha hb la lb hp lp hok =>
  simp only[W.ps];have n1:(LK .i64 ps).length=ps.length:=by simp[LK]
  have n2:(W.ds ws).length=ws.length:=by simp[W.h_]
  obtain⟨N,t⟩:=(ym _ (.mk (s:=false) (a:=[]) (b:=[]) (c:=0) (i:=false) (u:=0) (p:=[]) kK kK aA aA BG lp hok) _ ok).any;rw[TQ]at t;generalize hbare:W.bare (.mk s a b c i u p ws)=bare at*
  by_cases hlen:ws.length=ps.length
  ·have hl1:(ws.length==ps.length)=true:=by simpa using hlen
   have hne:((ws.length:Int) != (ps.length:Int))=false:=by simp;omega
   rw[hl1,Qr2];have hA:Ex E0 f29.body.l (st0 (.d (aT 6 ps)::.d (W.mk s a b c i u p ws).d::NB) [])
     (.norm,(st0 (.u::.u::rL 0::rL 1::sO) [.box [dI 6,.d (.s 1 (LK .i64 ps))],.box [dB s,.d (LD a),.d (LD b),dI c,dB i,.d (.v (.int .u64 u)),.d (PD p),.d (.s 8 (W.ds ws))]])):=by
    refine Ex.of (n:=40) ?_;simp only[W.d,PD,LD,aT];generalize LL a=x1;generalize LL b=x2;generalize List.map Mo.d p=x5;generalize W.ds ws=x7;generalize LK .i64 ps=l1;simp[f29]
   have hB:Ex E0 f29.body.r.l (st0 (.u::.u::rL 0::rL 1::sO) [.box [dI 6,.d (.s 1 (LK .i64 ps))],.box [dB s,.d (LD a),.d (LD b),dI c,dB i,.d (.v (.int .u64 u)),.d (PD p),.d (.s 8 (W.ds ws))]])
     (.norm,(st0 [.u,.u,rL 0,rL 1,.u,.u,dB false,.u,.u,.u,.u] [.box [dI 6,.d (.s 1 (LK .i64 ps))],.box [dB s,.d (LD a),.d (LD b),dI c,dB i,.d (.v (.int .u64 u)),.d (PD p),.d (.s 8 (W.ds ws))]])):=by
    refine Ex.of (n:=600) ?_;simp only[PD,LD,aT]at hv ⊢;generalize LL a=x1;generalize LL b=x2;generalize List.map Mo.d p=x5;generalize W.ds ws=x7;generalize LK .i64 ps=l1 at hv ⊢;simp[f29,hv]
   have hC:Ex E0 f29.body.r.r.l (st0 [.u,.u,rL 0,rL 1,.u,.u,dB false,.u,.u,.u,.u] [.box [dI 6,.d (.s 1 (LK .i64 ps))],.box [dB s,.d (LD a),.d (LD b),dI c,dB i,.d (.v (.int .u64 u)),.d (PD p),.d (.s 8 (W.ds ws))]])
     (.norm,(st0 [.u,.u,rL 0,rL 1,.u,.u,.u,dB false,.u,.u,.u] [.box [dI 6,.d (.s 1 (LK .i64 ps))],.box [dB s,.d (LD a),.d (LD b),dI c,dB i,.d (.v (.int .u64 u)),.d (PD p),.d (.s 8 (W.ds ws))]])):=by
    apply e6;simp only[PD,LD];generalize LL a=x1;generalize LL b=x2;generalize List.map Mo.d p=x5;generalize W.ds ws=x7;generalize LK .i64 ps=l1;simp[f29]
   cases hbb:bare
   ·rw[hbb]at t;rw[Q31];replace t:=t N ae;refine Ca.body (o:=.ret) (st1:=(st0 (.u::.u::.u::.u::dB false::qO) [.box [dI 6,.d (.s 1 (LK .i64 ps))],.box [dB s,.d (LD a),.d (LD b),dI c,dB i,.d (.v (.int .u64 u)),.d (PD p),.d (.s 8 (W.ds ws))]])) rfl (k29:E0.fn _=_) rfl ?_ (by intro id h;cases h) ?_
    ·show Ex E0 (.seq f29.body.l (.seq f29.body.r.l (.seq f29.body.r.r.l f29.body.r.r.r))) _ _;refine hA.seq (hB.seq (hC.seq (Ex.of (n:=N+90) ?_)));simp only[W.d,PD,LD,W.ds]at t ⊢;generalize LL a=x1 at t ⊢;generalize LL b=x2 at t ⊢;simp only[LL,Qc1]at t;generalize List.map Mo.d p=x5 at t ⊢;generalize W.ds ws=x7 at t n2 ⊢;generalize LK .i64 ps=l1 at n1 ⊢;simp[f29,t,n1,n2,hne]
    ·simp[f29]
   ·rw[hbb]at t;rw[Qr2];obtain⟨r,hr,hq⟩:=YG 6 (vB s) (LD a) (LD b) (vI c) (vB i) (.v (.int .u64 u)) (PD p) ws ps hl hlen hs hok;replace t:=t N ae;have hD:Ex E0 f29.body.r.r.r.l (st0 [.u,.u,rL 0,rL 1,.u,.u,.u,dB false,.u,.u,.u] [.box [dI 6,.d (.s 1 (LK .i64 ps))],.box [dB s,.d (LD a),.d (LD b),dI c,dB i,.d (.v (.int .u64 u)),.d (PD p),.d (.s 8 (W.ds ws))]])
      (.norm,(st0 [.u,.u,rL 0,rL 1,.u,.u,.u,.u,dB false,.u,.u] [.box [dI 6,.d (.s 1 (LK .i64 ps))],.box [dB s,.d (LD a),.d (LD b),dI c,dB i,.d (.v (.int .u64 u)),.d (PD p),.d (.s 8 (W.ds ws))]])):=by
     refine Ex.of (n:=N+90) ?_;simp only[W.d,PD,LD,W.ds]at t ⊢;generalize LL a=x1 at t ⊢;generalize LL b=x2 at t ⊢;simp only[LL,Qc1]at t;generalize List.map Mo.d p=x5 at t ⊢;generalize W.ds ws=x7 at t n2 ⊢;generalize LK .i64 ps=l1 at n1 ⊢;simp[f29,t,n1,n2,hne]
    have hE:Ex E0 f29.body.r.r.r.r.l.l (st0 [.u,.u,rL 0,rL 1,.u,.u,.u,.u,dB false,.u,.u] [.box [dI 6,.d (.s 1 (LK .i64 ps))],.box [dB s,.d (LD a),.d (LD b),dI c,dB i,.d (.v (.int .u64 u)),.d (PD p),.d (.s 8 (W.ds ws))]])
      (.norm,Xz 6 ps [dB s,.d (LD a),.d (LD b),dI c,dB i,.d (.v (.int .u64 u)),.d (PD p),.d (.s 8 (W.ds ws))] 0 .u):=by
     apply e6;unfold Xz;simp only[PD,LD];generalize LL a=x1;generalize LL b=x2;generalize List.map Mo.d p=x5;generalize W.ds ws=x7;generalize LK .i64 ps=l1;simp[f29]
    rcases hq with ⟨hall,rfl⟩|⟨hall,rfl⟩
    ·rw[hall];refine Ca.body (o:=.ret) (st1:=(st0 (.u::.u::.u::.u::dB true::qO) [.box [dI 6,.d (.s 1 (LK .i64 ps))],.box [dB s,.d (LD a),.d (LD b),dI c,dB i,.d (.v (.int .u64 u)),.d (PD p),.d (.s 8 (W.ds ws))]])) rfl (k29:E0.fn _=_) rfl ?_ (by intro id h;cases h) ?_
     ·show Ex E0 (.seq f29.body.l (.seq f29.body.r.l (.seq f29.body.r.r.l (.seq f29.body.r.r.r.l (.seq (.seq f29.body.r.r.r.r.l.l (.block 0 (.loop wcB))) f29.body.r.r.r.r.r))))) _ _;refine hA.seq (hB.seq (hC.seq (hD.seq ((hE.seq hr.block).seq (Ex.of (n:=40) ?_)))));unfold Xz;generalize LK .i64 ps=l1;simp[f29]
     ·simp[f29]
    ·rw[hall];refine Ca.body (o:=.ret) (st1:=wcF 6 ps [dB s,.d (LD a),.d (LD b),dI c,dB i,.d (.v (.int .u64 u)),.d (PD p),.d (.s 8 (W.ds ws))]) rfl (k29:E0.fn _=_) rfl ?_ (by intro id h;cases h) ?_
     ·show Ex E0 (.seq f29.body.l (.seq f29.body.r.l (.seq f29.body.r.r.l (.seq f29.body.r.r.r.l (.seq (.seq f29.body.r.r.r.r.l.l (.block 0 (.loop wcB))) f29.body.r.r.r.r.r))))) _ _;exact hA.seq (hB.seq (hC.seq (hD.seq (hE.seq hr.dA).dX)))
     ·simp[f29,wcF]
  ·have hl1:(ws.length==ps.length)=false:=by simpa using hlen
   have hne:((ws.length:Int) != (ps.length:Int))=true:=by simp;omega
   rw[hl1,Q31,Q31];refine Ca.bP (n:=700) ?_;rw[av rfl (k29:E0.fn _=_) rfl];clear t hok ok;simp only[W.d,PD,LD,aT]at*;generalize LL a=x1,LL b=x2,List.map Mo.d p=x5,W.ds ws=x7 at*;simp[f29,hv,n1,n2,hne]
theorem tF (k:Int)(ps:List Int)(w:W)(hl:ps.length<=1000000)(hw:w.OK):Ca E0 29 [.d (aT k ps),.d w.d] (dB (cZ k ps w),none):=by
 have hv:=fun n=>fU n k ps
 unfold cZ;cases wE:aK k ps
 ·rw[wE]at hv;rw[Q31];refine Ca.bP (n:=600) ?_;rw[av rfl (k29:E0.fn _=_) rfl];obtain⟨sx,ax,bx,cx,ix,ux,px,Lt⟩:=w;simp only[W.d,PD,LD,aT]at*;generalize LL ax=x1,LL bx=x2,List.map Mo.d px=x5,W.ds Lt=x7,LK .i64 ps=l1 at*;simp[f29,hv]
 ·rw[wE]at hv;rw[Qr2]
  by_cases hk:k=6
  ·subst hk;rw[if_neg aA];exact LJ ps w hl hw wE hv
  ·rw[if_pos hk];have hne:(k != 6)=true:=by simpa using hk
   have hs:single k=true:=by
    unfold aK at wE;rw[if_pos hk]at wE;simp only[Qb1]at wE;exact wE.1
   obtain⟨n1,t1⟩:=(EM k hs w hw).any;replace t1:=t1 (n1+600) ae;have hv':∀ m,CL E0 (n1+600+m) 28 [.d (aT k ps)] []=some (dB true,none):=fun m=>by
    have:=hv (n1+100+m)
    rwa [show n1+100+m+500=n1+600+m by omega]at this
   clear hv;generalize fO k w=vv,n1+600=N at*;clear wE hw;refine Ca.bP (n:=N+90) ?_;rw[av rfl (k29:E0.fn _=_) rfl];obtain⟨sx,ax,bx,cx,ix,ux,px,Lt⟩:=w;simp only[W.d,PD,LD,aT]at*;generalize LL ax=x1,LL bx=x2,List.map Mo.d px=x5,W.ds Lt=x7 at*;simp[f29,hv',t1,hne]
end Fi.S
