import Derived.Test.YtgngjdakilfmoaaGreatDoorCD
set_option linter.unusedVariables false
set_option linter.unusedSimpArgs false
noncomputable section
namespace Fi.S
open Go Fi
set_option maxHeartbeats 8000000
set_option maxRecDepth 4000
def single (k:Int):Bool:=decide (1<=k)&&decide (k<=5)
def aM (k:Int)(ps:List Int):Bool:=if k≠6 then single k&&decide (ps=[]) else decide (2<=ps.length)&&decide (ps.length<=3)&&ps.all single
theorem Cu (n:Nat)(k:Int):CL E0 (n+30) 67 [dI k] []=some (dB (single k),none):=by
 rw[aA rfl (aO 67 f67:E0.fn _=_) rfl];unfold single
 by_cases h:1<=k
 ·by_cases h2:k<=5
  ·simp[f67,h,h2]
  ·simp[f67,h,h2]
 ·simp[f67,h]
theorem jv (n:Nat)(k:Int):CL E0 (n+60) 69 [dI k] []=some (dB (!single k),none):=by
 have h:=fun m=>Cu m k
 rw[aA rfl (aO 69 f69:E0.fn _=_) rfl];generalize single k=b at*;simp[f69,h]
theorem Fb (n:Nat)(x y:Int):CL E0 (n+300) 68 [.d (.s 1 (LK .i64 [x,y])),.d (.fn 69)] []=some (dB (!(single x&&single y)),none):=by
 have h1:=fun m=>jv m x
 have h2:=fun m=>jv m y
 have w1:ak .i64 1=1:=wrap_i64 ae;have w2:ak .i64 2=2:=wrap_i64 ae;have hi:∃ v:Int,(decide (0<=v) = !(single x&&single y))/\∀ m,CL E0 (m+200) 100 [.d (.s 1 (LK .i64 [x,y])),.d (.fn 69)] []=some (dI v,none):=by
  cases hx:single x
  ·refine⟨0,rfl,fun m => ?_⟩;rw[hx]at h1;rw[aA rfl (k100:E0.fn _=_) rfl];simp only[LK,Qe2,Qc2];simp[f100,aD,h1]
  ·cases hy:single y
   ·refine⟨1,rfl,fun m => ?_⟩;rw[hx]at h1;rw[hy]at h2;rw[aA rfl (k100:E0.fn _=_) rfl];simp only[LK,Qe2,Qc2];simp[f100,aD,w1,h1,h2]
   ·refine⟨-1,rfl,fun m => ?_⟩;rw[hx]at h1;rw[hy]at h2;rw[aA rfl (k100:E0.fn _=_) rfl];simp only[LK,Qe2,Qc2];simp[f100,aD,w1,w2,h1,h2]
 obtain⟨v,hv,hi⟩:=hi;rw[aA rfl (k68:E0.fn _=_) rfl];rw[<-hv];generalize LK .i64 [x,y]=l at*;simp[f68,hi]
theorem Fe (n:Nat)(x y z:Int):CL E0 (n+300) 68 [.d (.s 1 (LK .i64 [x,y,z])),.d (.fn 69)] []=some (dB (!(single x&&(single y&&single z))),none):=by
 have h1:=fun m=>jv m x
 have h2:=fun m=>jv m y
 have h3:=fun m=>jv m z
 have w1:ak .i64 1=1:=wrap_i64 ae;have w2:ak .i64 2=2:=wrap_i64 ae;have w3:ak .i64 3=3:=wrap_i64 ae;have hi:∃ v:Int,(decide (0<=v) = !(single x&&(single y&&single z)))/\∀ m,CL E0 (m+200) 100 [.d (.s 1 (LK .i64 [x,y,z])),.d (.fn 69)] []=some (dI v,none):=by
  cases hx:single x
  ·refine⟨0,rfl,fun m => ?_⟩;rw[hx]at h1;rw[aA rfl (k100:E0.fn _=_) rfl];simp only[LK,Qe2,Qc2];simp[f100,aD,h1]
  ·cases hy:single y
   ·refine⟨1,rfl,fun m => ?_⟩;rw[hx]at h1;rw[hy]at h2;rw[aA rfl (k100:E0.fn _=_) rfl];simp only[LK,Qe2,Qc2];simp[f100,aD,w1,h1,h2]
   ·cases hz:single z
    ·refine⟨2,rfl,fun m => ?_⟩;rw[hx]at h1;rw[hy]at h2;rw[hz]at h3;rw[aA rfl (k100:E0.fn _=_) rfl];simp only[LK,Qe2,Qc2];simp[f100,aD,w1,w2,h1,h2,h3]
    ·refine⟨-1,rfl,fun m => ?_⟩;rw[hx]at h1;rw[hy]at h2;rw[hz]at h3;rw[aA rfl (k100:E0.fn _=_) rfl];simp only[LK,Qe2,Qc2];simp[f100,aD,w1,w2,w3,h1,h2,h3]
 obtain⟨v,hv,hi⟩:=hi;rw[aA rfl (k68:E0.fn _=_) rfl];rw[<-hv];generalize LK .i64 [x,y,z]=l at*;simp[f68,hi]
theorem qE (n:Nat)(k:Int)(ps:List Int):CL E0 (n+500) 31 [.d (aU k ps)] []=some (dB (aM k ps),none):=by
 have hs:=fun m=>Cu m k
 rw[aA rfl (aO 31 f31:E0.fn _=_) rfl];unfold aM aU
 by_cases hk:k=6
 ·subst hk;rw[if_neg aC]
  match ps with
  | []=>simp[f31,LK]
  | [x]=>simp[f31,LK]
  | [x,y] =>
   have h:=fun m=>Fb m x y
   simp only[LK,Qe2,Qc2]at h;simp[f31,LK,h]
  | [x,y,z] =>
   have h:=fun m=>Fe m x y z
   simp only[LK,Qe2,Qc2]at h;simp[f31,LK,h]
  | x::y::z::w::r =>
   have h2:(2:Int)<=(r.length:Int)+1+1+1+1:=ae;have h3:¬ (r.length:Int)+1+1+1+1<=3:=ae;simp[f31,LK,h2,h3]
 ·rw[if_pos hk];have hne:(k != 6)=true:=by simpa using hk
  cases hb:single k
  ·rw[hb]at hs;simp[f31,hne,hs]
  ·rw[hb]at hs;cases ps with
   | nil=>simp[f31,LK,hne,hs]
   | cons x r =>
    have h0:(((r.length:Int)+1)==0)=false:=by simp;omega
    simp[f31,LK,hne,hs,h0]
theorem jR (x:Int):(single x=true/\¬ x<1/\¬ 5<x)\/(single x=false/\x<1)\/(single x=false/\¬ x<1/\5<x):=by
 unfold single
 by_cases h1:x<1
 ·have:¬ 1<=x:=ae;simp[this,h1]
 ·by_cases h2:5<x
  ·have:¬ x<=5:=ae;simp[this,h1,h2]
  ·have a1:1<=x:=ae;have a2:x<=5:=ae;simp[a1,a2]
theorem fJ (n:Nat)(k:Int)(ps:List Int):CL E0 (n+500) 28 [.d (aU k ps)] []=some (dB (aM k ps),none):=by
 rw[aA rfl (aO 28 f28:E0.fn _=_) rfl];have w1:ak .i64 1=1:=wrap_i64 ae;have w2:ak .i64 2=2:=wrap_i64 ae;have w3:ak .i64 3=3:=wrap_i64 ae;unfold aM aU
 by_cases hk:k=6
 ·subst hk;rw[if_neg aC]
  match ps with
  | []=>simp[f28,LK]
  | [x]=>simp[f28,LK]
  | [x,y] =>
   rcases jR x with ⟨a,a1,a2⟩|⟨a,a1⟩|⟨a,a1,a2⟩
   ·rcases jR y with ⟨b,b1,b2⟩|⟨b,b1⟩|⟨b,b1,b2⟩
    ·simp[f28,aD,LK,w1,w2,a,a1,a2,b,b1,b2]
    ·simp[f28,aD,LK,w1,a,a1,a2,b,b1]
    ·simp[f28,aD,LK,w1,a,a1,a2,b,b1,b2]
   ·simp[f28,aD,LK,a,a1]
   ·simp[f28,aD,LK,a,a1,a2]
  | [x,y,z] =>
   rcases jR x with ⟨a,a1,a2⟩|⟨a,a1⟩|⟨a,a1,a2⟩
   ·rcases jR y with ⟨b,b1,b2⟩|⟨b,b1⟩|⟨b,b1,b2⟩
    ·rcases jR z with ⟨c,c1,c2⟩|⟨c,c1⟩|⟨c,c1,c2⟩
     ·simp[f28,aD,LK,w1,w2,w3,a,a1,a2,b,b1,b2,c,c1,c2]
     ·simp[f28,aD,LK,w1,w2,a,a1,a2,b,b1,b2,c,c1]
     ·simp[f28,aD,LK,w1,w2,a,a1,a2,b,b1,b2,c,c1,c2]
    ·simp[f28,aD,LK,w1,a,a1,a2,b,b1]
    ·simp[f28,aD,LK,w1,a,a1,a2,b,b1,b2]
   ·simp[f28,aD,LK,a,a1]
   ·simp[f28,aD,LK,a,a1,a2]
  | x::y::z::w::r =>
   have h2:¬ (r.length:Int)+1+1+1+1<2:=ae;have h3:(3:Int)<(r.length:Int)+1+1+1+1:=ae;simp[f28,LK,h2,h3]
 ·rw[if_pos hk];have hne:(k != 6)=true:=by simpa using hk
  unfold single
  by_cases b1:1<=k
  ·by_cases b2:k<=5
   ·cases ps with
    | nil=>simp[f28,LK,hne,b1,b2]
    | cons x r =>
     have h0:(((r.length:Int)+1)==0)=false:=by simp;omega
     simp[f28,LK,hne,b1,b2,h0]
   ·generalize LK .i64 ps=l at*;simp[f28,hne,b1,b2]
  ·generalize LK .i64 ps=l at*;simp[f28,hne,b1]
def q0 (s:Bool)(a b:List Nat):Bool := !s&&decide (a=[])&&decide (b=[])
def gH (k:Int):W->Bool
 | .mk s a b c i u p ps =>
  if k=1 then ek s a b&&((c==0) && !i&&(u==0)&&p.isEmpty&&ps.isEmpty)
  else if k=2 then(decide (0<=c)&&decide (c<=1099511627776)&&(!i||(c==0)))&&(q0 s a b&&(u==0)&&p.isEmpty&&ps.isEmpty)
  else if k=3 then(ek s a b&&((c==0) && !i&&(u==0)&&p.isEmpty&&ps.isEmpty))&&decide (0<=(cB s a b).num.sign) && !decide ((1:Rat)<cB s a b)
  else if k=4 then q0 s a b&&(c==0) && !i&&p.isEmpty&&ps.isEmpty
  else z_ none p&&(q0 s a b&&(c==0) && !i&&(u==0)&&ps.isEmpty)
theorem Bt {α:Type}(eq:α->α->Bool)(l:List α):lK eq l []=l.isEmpty:=by cases l<;>rfl
theorem Bu (l:List W):W.eqs l []=l.isEmpty:=by cases l<;>rfl
theorem Cv {α:Type}{eq:α->α->Bool}(h:∀ x,eq x x=true):∀ l:List α,lK eq l l=true
 | []=>rfl
 | x::r=>by simp[lK,h x,Cv h r]
theorem FN (m:Mo):m.eq m=true:=by simp[Mo.eq]
theorem xx (s:Bool)(a b:List Nat):(s==false&&decide (a=[])&&decide (b=[]))=q0 s a b:=by cases s<;>rfl
theorem Bv (s:Bool)(a b:List Nat)(c:Int)(i:Bool)(u:Int)(p:List Mo)(ha:bY a)(hb:bY b)(la:a.length<=1000)(lb:b.length<=1000)(hp:Po p):(W.mk s a b c i u p []).OK :=
 .mk ha hb la lb hp aC (fun w hw=>by cases hw)
theorem lF:bY []:=fun x hx=>by cases hx
theorem Cw:Po []:=⟨(fun m hm=>by cases hm),aC⟩
theorem O8 (w:W)(hw:w.OK):Ca E0 108 [.d w.d] (dB (gH 1 w),none):=by
 cases hw with
 | @mk s a b c i u p ps ha hb la lb hp lp h =>
  obtain⟨Kq,_,t1,t2⟩:=((yR s a b ae ae ha hb).j ((pI _ (.mk (c:=c) (i:=i) (u:=u) (s:=s) ha hb la lb hp lp h) _ (Bv s a b 0 false 0 [] ha hb la lb Cw)).any)).at 0;generalize Kq=N at*;have e:W.eq (.mk s a b c i u p ps) (.mk s a b 0 false 0 [] [])=((c==0) && !i&&(u==0)&&p.isEmpty&&ps.isEmpty):=by
   simp only[W.eq,Bt,Bu];cases i<;>simp
  rw[e]at t2;refine Ca.bQ (n:=N+90) ?_;rw[aA rfl (aO 108 f108:E0.fn _=_) rfl];rw[gH];rw[if_pos rfl];generalize ((c==0) && !i&&(u==0)&&p.isEmpty&&ps.isEmpty)=r2,ek s a b=r1 at*;simp only[W.d,W.ds,PD,raw,LD]at*;generalize LL a=x1,LL b=x2,W.ds ps=x4 at*;simp only[Qc2]at*;generalize List.map Mo.d p=x3 at*;cases r1
  ·simp[f108,t1]
  ·simp[f108,t1,t2]
theorem aab (w:W)(hw:w.OK):Ca E0 122 [.d w.d] (dB (gH 2 w),none):=by
 cases hw with
 | @mk s a b c i u p ps ha hb la lb hp lp h =>
  obtain⟨N,t2⟩:=(pI _ (.mk (c:=c) (i:=i) (u:=u) (s:=s) ha hb la lb hp lp h) _ (Bv false [] [] c i 0 [] lF lF aC aC Cw)).get;have e:W.eq (.mk s a b c i u p ps) (.mk false [] [] c i 0 [] [])=(q0 s a b&&(u==0)&&p.isEmpty&&ps.isEmpty):=by
   simp only[W.eq,Bt,Bu,xx];simp
  rw[e]at t2;refine Ca.bQ (n:=N+90) ?_;rw[aA rfl (aO 122 f122:E0.fn _=_) rfl];rw[gH];rw[if_neg ae,if_pos rfl];generalize (q0 s a b&&(u==0)&&p.isEmpty&&ps.isEmpty)=r2 at*;simp only[W.d,W.ds,PD,LD]at*;generalize LL a=x1,LL b=x2,W.ds ps=x4 at*;simp only[Qc2,LL]at*;generalize List.map Mo.d p=x3 at*
  by_cases h1:0<=c
  ·by_cases h2:c<=1099511627776
   ·cases i
    ·simp[f122,t2,h1,h2]
    ·cases h3:(c==0)
     ·simp[f122,t2,h1,h2,h3]
     ·simp[f122,t2,h1,h2,h3]
   ·simp[f122,h1,h2]
  ·simp[f122,h1]
theorem aac (w:W)(hw:w.OK):Ca E0 139 [.d w.d] (dB (gH 4 w),none):=by
 cases hw with
 | @mk s a b c i u p ps ha hb la lb hp lp h =>
  obtain⟨N,t2⟩:=(pI _ (.mk (c:=c) (i:=i) (u:=u) (s:=s) ha hb la lb hp lp h) _ (Bv false [] [] 0 false u [] lF lF aC aC Cw)).get;have e:W.eq (.mk s a b c i u p ps) (.mk false [] [] 0 false u [] [])=(q0 s a b&&(c==0) && !i&&p.isEmpty&&ps.isEmpty):=by
   simp only[W.eq,Bt,Bu,xx];cases i<;>simp
  rw[e]at t2;refine Ca.bQ (n:=N+90) ?_;rw[aA rfl (aO 139 f139:E0.fn _=_) rfl];rw[gH];rw[if_neg ae,if_neg ae,if_neg ae,if_pos rfl];generalize (q0 s a b&&(c==0) && !i&&p.isEmpty&&ps.isEmpty)=r2 at*;simp only[W.d,W.ds,PD,LD]at*;generalize LL a=x1,LL b=x2,W.ds ps=x4 at*;simp only[Qc2,LL]at*;generalize List.map Mo.d p=x3 at*;simp[f139,t2]
theorem aad (w:W)(hw:w.OK):Ca E0 149 [.d w.d] (dB (gH 5 w),none):=by
 cases hw with
 | @mk s a b c i u p ps ha hb la lb hp lp h =>
  obtain⟨Kq,_,t1,t2⟩:=((FL p hp).j ((pI _ (.mk (c:=c) (i:=i) (u:=u) (s:=s) ha hb la lb hp lp h) _ (Bv false [] [] 0 false 0 p lF lF aC aC hp)).any)).at 0;generalize Kq=N at*;have e:W.eq (.mk s a b c i u p ps) (.mk false [] [] 0 false 0 p [])=(q0 s a b&&(c==0) && !i&&(u==0)&&ps.isEmpty):=by
   simp only[W.eq,Cv FN,Bu,xx];cases i<;>simp
  rw[e]at t2;refine Ca.bQ (n:=N+90) ?_;rw[aA rfl (aO 149 f149:E0.fn _=_) rfl];rw[gH];rw[if_neg ae,if_neg ae,if_neg ae,if_neg ae];generalize (q0 s a b&&(c==0) && !i&&(u==0)&&ps.isEmpty)=r2,z_ none p=r1 at*;simp only[W.d,W.ds,PD,LD]at*;generalize LL a=x1,LL b=x2,W.ds ps=x4 at*;simp only[Qc2,LL]at*;generalize List.map Mo.d p=x3 at*;cases r1
  ·simp[f149,t1]
  ·simp[f149,t1,t2]
def A8:D:=.a [(.fn 108),(.fn 110),(.fn 111),(.fn 113),(.fn 115),(.fn 117),(.fn 118),(.fn 119),(.fn 121)]
theorem adU (n:Nat):CL E0 (n+40) 79 [] []=some (.d A8,none):=by
 rw[aA rfl (aO 79 f79:E0.fn _=_) rfl];unfold A8;simp[f79]
theorem Ht:qD (1:Rat)=raw false [1] []:=by
 have h1:qs (1:Rat)=false:=by unfold qs;rfl
 have h2:qn (1:Rat)=[1]:=by
  have:(1:Rat).num.natAbs=1:=rfl;unfold qn;rw[this];exact Bp.2 rfl
 have h3:qd (1:Rat)=[]:=by
  have:(1:Rat).den=1:=rfl;unfold qd;rw[if_pos this]
 rw[qD,h1,h2,h3]
theorem O9:sw 1 1=1:=by rw[UF _ _ ae];simp;grind
def adV:D:=.a [vB false,.s 1 [.v (.int .u32 1)],.s 1 [],vI 0,vB false,.v (.int .u64 0),.s 6 [],.s 8 []]
theorem MR:Ca E0 112 [dI 1] (.d adV,none):=by
 obtain⟨N,t⟩:=(ZR 1 1 ae ae ae).get;rw[O9,Ht]at t;refine Ca.bQ (n:=N+80) ?_;rw[aA rfl (aO 112 f112:E0.fn _=_) rfl];unfold adV;simp only[raw,LD,LL,Qe2,Qc2,Int.natCast_one]at t;simp[f112,rH,t]
theorem yV:qz (1:Rat)<=1:=by
 have h1:(1:Rat).num.natAbs=1:=rfl;have h2:(1:Rat).den=1:=rfl;unfold qz;rw[h1,h2,Ce];omega
theorem aae (w:W)(hw:w.OK):Ca E0 133 [.d w.d] (dB (gH 3 w),none):=by
 have hc1:=O8 w hw;cases hw with
 | @mk s a b c i u p ps ha hb la lb hp lp h =>
  rw[gH,if_pos rfl]at hc1;rw[gH,if_neg ae,if_neg ae,if_pos rfl];have a79:=adU;obtain⟨n1,t1⟩:=hc1.any;cases hv:ek s a b
  ·rw[hv]at t1;simp only[Q60]at t1 ⊢;replace t1:=t1 n1 ae;refine Ca.bQ (n:=n1+90) ?_;rw[aA rfl (k133:E0.fn _=_) rfl];simp only[W.d,W.ds,PD,raw,LD,A8]at*;generalize LL a=x1,LL b=x2,W.ds ps=x4,List.map Mo.d p=x3 at*;simp[f133,a79,t1]
  ·rw[hv]at t1;simp only[Qs1]at t1 ⊢;have hq:=uC ha hb hv;have hz:=xk ha hb 1000 la lb ae hv;obtain⟨n2,t2⟩:=(w_ (cB s a b) ae).any;obtain⟨n3,t3⟩:=(z8 (cB s a b) 1 ae (by have:=yV;omega)).any;obtain⟨n4,t4⟩:=MR.any;rw[Ht]at t3;rw[<-hq]at t2 t3;have e3:(!decide ((1:Rat)<cB s a b))=decide ((cB s a b-1).num.sign<=0):=by
    have:=(JN (cB s a b) 1).2;rw[<-decide_not]
    congr 1
    rw[<-this];simp only[Int.not_lt]
   rw[e3];clear e3 hq hz;generalize (cB s a b-1).num.sign=g2,(cB s a b).num.sign=g1,((c==0) && !i&&(u==0)&&p.isEmpty&&ps.isEmpty)=r2 at*;replace t1:=t1 (n1+n2+n3+n4) ae;replace t2:=t2 (n1+n2+n3+n4) ae;replace t3:=t3 (n1+n2+n3+n4) ae;replace t4:=t4 (n1+n2+n3+n4) ae;generalize n1+n2+n3+n4=N at*;refine Ca.bQ (n:=N+90) ?_;rw[aA rfl (k133:E0.fn _=_) rfl];simp only[W.d,W.ds,PD,raw,LD,A8,adV]at*;simp only[LL,Qe2,Qc2,Int.natCast_one]at t3;simp only[<-show ∀ l:List Nat,LL l=List.map (fun(x:Nat)=>D.v (Value.int IntKind.u32 (x:Int))) l from fun _=>rfl]at t3;generalize LL a=x1,LL b=x2,W.ds ps=x4,List.map Mo.d p=x3 at*;cases r2
   ·simp[f133,a79,t1]
   ·by_cases h1:0<=g1
    ·by_cases h2:g2<=0
     ·simp[f133,a79,t1,t2,t3,t4,h1,h2]
     ·simp[f133,a79,t1,t2,t3,t4,h1,h2]
    ·simp[f133,a79,t1,t2,h1]
theorem pJ (ps:List W):(ps.isEmpty=true/\(W.ds ps).length=0)\/(ps.isEmpty=false/\∃ m,(W.ds ps).length=m+1):=by
 cases ps with
 | nil=>exact .inl ⟨rfl,rfl⟩
 | cons x r=>exact .inr ⟨rfl,(W.ds r).length,by simp[W.ds]⟩
theorem sP (p:List Mo):(p.isEmpty=true/\(p.map Mo.d).length=0)\/(p.isEmpty=false/\∃ m,(p.map Mo.d).length=m+1):=by
 cases p with
 | nil=>exact .inl ⟨rfl,rfl⟩
 | cons x r=>exact .inr ⟨rfl,r.length,aC⟩
theorem MS (w:W)(hw:w.OK):Ca E0 66 [dI 1,.d w.d] (dB (gH 1 w),none):=by
 cases hw with
 | @mk s a b c i u p ps ha hb la lb hp lp h =>
  have hps:=pJ ps;have hpo:=sP p;obtain⟨n1,t1⟩:=(nu s false a b [] [] ae ae aC aC).any;rw[xx]at t1;rw[gH,if_pos rfl];obtain⟨n2,t2⟩:=(uB s a b ae ae ha hb).any;replace t1:=t1 (n1+n2) ae;replace t2:=t2 (n1+n2) ae;generalize n1+n2=N at*;refine Ca.bQ (n:=N+90) ?_;rw[aA rfl (k66:E0.fn _=_) rfl];generalize ek s a b=r2,q0 s a b=nn at*;simp only[W.d,PD,raw,LD]at*;generalize LL a=x1,LL b=x2,W.ds ps=x4,List.map Mo.d p=x3,ps.isEmpty=be,p.isEmpty=bp at*;simp only[LL,Qc2]at t1;have e1:(c != 0) = !(c==0):=rfl;have e2:(u != 0) = !(u==0):=rfl;rcases hps with ⟨rfl,hps⟩|⟨rfl,m,hps⟩
  ·skip
   cases i
   ·cases h3:(c==0)
    ·rw[h3]at e1;simp[f66,t1,hps,e1]
    ·rw[h3]at e1;cases h4:(u==0)
     ·rw[h4]at e2;simp[f66,t1,hps,e1,e2]
     ·rw[h4]at e2;rcases hpo with ⟨rfl,hpo⟩|⟨rfl,m,hpo⟩
      ·skip
       simp[f66,t1,hps,e1,e2,hpo,t2]
      ·simp[f66,t1,hps,e1,e2,hpo]
   ·simp[f66,t1,hps]
  ·simp[f66,t1,hps]
theorem MU (w:W)(hw:w.OK):Ca E0 66 [dI 2,.d w.d] (dB (gH 2 w),none):=by
 cases hw with
 | @mk s a b c i u p ps ha hb la lb hp lp h =>
  have hps:=pJ ps;have hpo:=sP p;obtain⟨n1,t1⟩:=(nu s false a b [] [] ae ae aC aC).any;rw[xx]at t1;rw[gH,if_neg ae,if_pos rfl];replace t1:=t1 (n1) ae;replace t1:=t1;refine Ca.bQ (n:=n1+90) ?_;rw[aA rfl (k66:E0.fn _=_) rfl];generalize q0 s a b=nn at*;simp only[W.d,PD,raw,LD]at*;generalize LL a=x1,LL b=x2,W.ds ps=x4,List.map Mo.d p=x3,ps.isEmpty=be,p.isEmpty=bp at*;simp only[LL,Qc2]at t1;have e1:(c != 0) = !(c==0):=rfl;have e2:(u != 0) = !(u==0):=rfl;rcases hps with ⟨rfl,hps⟩|⟨rfl,m,hps⟩
  ·skip
   cases nn
   ·simp[f66,t1,hps]
   ·skip
    cases h4:(u==0)
    ·rw[h4]at e2;simp[f66,t1,hps,e2]
    ·rw[h4]at e2;rcases hpo with ⟨rfl,hpo⟩|⟨rfl,m,hpo⟩
     ·skip
      by_cases h1:0<=c
      ·by_cases h2:c<=1099511627776
       ·cases i
        ·simp[f66,t1,hps,e2,hpo,h1,h2]
        ·cases h3:(c==0)
         ·rw[h3]at e1;simp[f66,t1,hps,e2,hpo,h1,h2,e1]
         ·rw[h3]at e1;simp[f66,t1,hps,e2,hpo,h1,h2,e1]
       ·simp[f66,t1,hps,e2,hpo,h1,h2]
      ·simp[f66,t1,hps,e2,hpo,h1]
     ·simp[f66,t1,hps,e2,hpo]
  ·simp[f66,t1,hps]
theorem MV (w:W)(hw:w.OK):Ca E0 66 [dI 4,.d w.d] (dB (gH 4 w),none):=by
 cases hw with
 | @mk s a b c i u p ps ha hb la lb hp lp h =>
  have hps:=pJ ps;have hpo:=sP p;obtain⟨n1,t1⟩:=(nu s false a b [] [] ae ae aC aC).any;rw[xx]at t1;rw[gH,if_neg ae,if_neg ae,if_neg ae,if_pos rfl];replace t1:=t1 (n1) ae;replace t1:=t1;refine Ca.bQ (n:=n1+90) ?_;rw[aA rfl (k66:E0.fn _=_) rfl];generalize q0 s a b=nn at*;simp only[W.d,PD,raw,LD]at*;generalize LL a=x1,LL b=x2,W.ds ps=x4,List.map Mo.d p=x3,ps.isEmpty=be,p.isEmpty=bp at*;simp only[LL,Qc2]at t1;have e1:(c != 0) = !(c==0):=rfl;have e2:(u != 0) = !(u==0):=rfl;rcases hps with ⟨rfl,hps⟩|⟨rfl,m,hps⟩
  ·skip
   cases nn
   ·simp[f66,t1,hps]
   ·skip
    cases i
    ·cases h3:(c==0)
     ·rw[h3]at e1;simp[f66,t1,hps,e1]
     ·rw[h3]at e1;rcases hpo with ⟨rfl,hpo⟩|⟨rfl,m,hpo⟩
      ·skip
       simp[f66,t1,hps,e1,hpo]
      ·simp[f66,t1,hps,e1,hpo]
    ·simp[f66,t1,hps]
  ·simp[f66,t1,hps]
theorem MW (w:W)(hw:w.OK):Ca E0 66 [dI 5,.d w.d] (dB (gH 5 w),none):=by
 cases hw with
 | @mk s a b c i u p ps ha hb la lb hp lp h =>
  have hps:=pJ ps;have hpo:=sP p;obtain⟨n1,t1⟩:=(nu s false a b [] [] ae ae aC aC).any;rw[xx]at t1;rw[gH,if_neg ae,if_neg ae,if_neg ae,if_neg ae];obtain⟨n2,t2⟩:=(FM p hp).any;replace t1:=t1 (n1+n2) ae;replace t2:=t2 (n1+n2) ae;generalize n1+n2=N at*;refine Ca.bQ (n:=N+90) ?_;rw[aA rfl (k66:E0.fn _=_) rfl];generalize z_ none p=r2,q0 s a b=nn at*;simp only[W.d,PD,raw,LD]at*;generalize LL a=x1,LL b=x2,W.ds ps=x4,List.map Mo.d p=x3,ps.isEmpty=be,p.isEmpty=bp at*;simp only[LL,Qc2]at t1;have e1:(c != 0) = !(c==0):=rfl;have e2:(u != 0) = !(u==0):=rfl;rcases hps with ⟨rfl,hps⟩|⟨rfl,m,hps⟩
  ·skip
   cases nn
   ·simp[f66,t1,hps]
   ·skip
    cases i
    ·cases h3:(c==0)
     ·rw[h3]at e1;simp[f66,t1,hps,e1]
     ·rw[h3]at e1;cases h4:(u==0)
      ·rw[h4]at e2;simp[f66,t1,hps,e1,e2]
      ·rw[h4]at e2;simp[f66,t1,hps,e1,e2,t2]
    ·simp[f66,t1,hps]
  ·simp[f66,t1,hps]
theorem MX (w:W)(hw:w.OK):Ca E0 66 [dI 3,.d w.d] (dB (gH 3 w),none):=by
 cases hw with
 | @mk s a b c i u p ps ha hb la lb hp lp h =>
  have hps:=pJ ps;have hpo:=sP p;obtain⟨n1,t1⟩:=(nu s false a b [] [] ae ae aC aC).any;rw[xx]at t1;obtain⟨n2,t2⟩:=(uB s a b ae ae ha hb).any;rw[gH,if_neg ae,if_neg ae,if_pos rfl];obtain⟨n3,t3⟩:=(Cs 1 1 ae ae ae).any;rw[O9,Ht]at t3;have hx:∃ n4,ek s a b=true->(∀ n,n4<=n->∀ k,CL E0 (n+k) 98 [.d (raw s a b)] []=some (dI (cB s a b).num.sign,none)) /\
    (∀ n,n4<=n->∀ k,CL E0 (n+k) 55 [.d (raw false [1] []),.d (raw s a b)] []=some (dB (decide ((1:Rat)<cB s a b)),none)):=by
   cases hv:ek s a b
   ·exact⟨0,fun h=>by cases h⟩
   ·have hq:=uC ha hb hv;have hz:=xk ha hb 1000 la lb ae hv;obtain⟨m1,s1⟩:=(ng (cB s a b) ae).any;obtain⟨m2,s2⟩:=(Cq 1 (cB s a b) (by have:=yV;omega) ae).any;rw[<-hq]at s1 s2;rw[Ht]at s2;exact⟨m1+m2,fun _=>⟨fun n hn k=>s1 n ae k,fun n hn k=>s2 n ae k⟩⟩
  obtain⟨n4,hx⟩:=hx;replace t1:=t1 (n1+n2+n3+n4) ae;replace t2:=t2 (n1+n2+n3+n4) ae;replace t3:=t3 (n1+n2+n3+n4) ae;have hx':ek s a b=true->(∀ k,CL E0 (n1+n2+n3+n4+k) 98 [.d (raw s a b)] []=some (dI (cB s a b).num.sign,none)) /\
    (∀ k,CL E0 (n1+n2+n3+n4+k) 55 [.d (raw false [1] []),.d (raw s a b)] []=some (dB (decide ((1:Rat)<cB s a b)),none)):=fun hv=>⟨(hx hv).1 _ ae,(hx hv).2 _ ae⟩
  clear hx;generalize n1+n2+n3+n4=N at*;refine Ca.bQ (n:=N+90) ?_;rw[aA rfl (k66:E0.fn _=_) rfl];generalize ek s a b=r2,q0 s a b=nn,(cB s a b).num.sign=g1 at*;generalize decide ((1:Rat)<cB s a b)=g2 at*;simp only[W.d,PD,raw,LD]at*;have e11:LL [1]=[D.v (.int .u32 1)]:=rfl;have e12:LL []=[]:=rfl;simp only[e11,e12]at t1 t3 hx';generalize LL a=x1,LL b=x2,W.ds ps=x4,List.map Mo.d p=x3,ps.isEmpty=be,p.isEmpty=bp at*;have e1:(c != 0) = !(c==0):=rfl;have e2:(u != 0) = !(u==0):=rfl;rcases hps with ⟨rfl,hps⟩|⟨rfl,m,hps⟩
  ·cases i
   ·cases h3:(c==0)
    ·rw[h3]at e1;simp[f66,t1,hps,e1]
    ·rw[h3]at e1;cases h4:(u==0)
     ·rw[h4]at e2;simp[f66,t1,hps,e1,e2]
     ·rw[h4]at e2;rcases hpo with ⟨rfl,hpo⟩|⟨rfl,m,hpo⟩
      ·cases r2
       ·simp[f66,t1,hps,e1,e2,hpo,t2]
       ·obtain⟨hx1,hx2⟩:=hx' rfl
        by_cases hg:0<=g1
        ·cases g2
         ·simp[f66,t1,hps,e1,e2,hpo,t2,t3,hx1,hx2,hg]
         ·simp[f66,t1,hps,e1,e2,hpo,t2,t3,hx1,hx2,hg]
        ·simp[f66,t1,hps,e1,e2,hpo,t2,hx1,hg]
      ·simp[f66,t1,hps,e1,e2,hpo]
   ·simp[f66,t1,hps]
  ·simp[f66,t1,hps]
theorem FO (k:Int)(hk:single k=true)(w:W)(hw:w.OK):Ca E0 66 [dI k,.d w.d] (dB (gH k w),none):=by
 have:k=1\/k=2\/k=3\/k=4\/k=5:=by
  simp only[single,Qd0,decide_eq_true_eq]at hk;omega
 rcases this with rfl|rfl|rfl|rfl|rfl
 ·exact MS w hw
 ·exact MU w hw
 ·exact MX w hw
 ·exact MV w hw
 ·exact MW w hw
def oO:FV:=.d (.a [(.fn 149),(.fn 151),(.fn 152),(.fn 154),(.fn 156),(.fn 158),(.fn 118),(.fn 160),(.fn 163)])
def oP:FV:=.d A8
def nA:List FV:=[(.d (.fn 122)),(.d (.fn 123)),(.d (.fn 124)),(.d (.fn 125)),(.d (.fn 127)),(.f 195 [] [(.r (.old 3) 0)]),(.d (.fn 126)),(.d (.fn 128)),(.f 131 [] [(.r (.old 2) 0)])]
def qF:FV:=.a nA
def oQ:List ah:=[.box nA,.box nA,.box nA,.box [(.d (.fn 124))]]
def nC:List FV:=[(.d (.fn 133)),(.d (.fn 110)),(.d (.fn 111)),(.f 137 [] [(.r (.old 2) 0)]),(.d (.fn 115)),(.f 195 [] [(.r (.old 3) 0)]),(.d (.fn 136)),(.d (.fn 119)),(.f 138 [] [(.r (.old 2) 0)])]
def qG:FV:=.a nC
def oU:List ah:=[.box nC,.box nC,.box nC,.box [(.d (.fn 111))]]
def nD:List FV:=[(.d (.fn 139)),(.d (.fn 140)),(.d (.fn 141)),(.d (.fn 142)),(.d (.fn 143)),(.f 195 [] [(.r (.old 3) 0)]),(.d (.fn 118)),(.d (.fn 144)),(.f 147 [] [(.r (.old 2) 0)])]
def qH:FV:=.a nD
def oV:List ah:=[.box nD,.box nD,.box nD,.box [(.d (.fn 141))]]
theorem Cy:cz E0 60 42 [dI 1] []=some (oP,none):=by kernel_rfl
theorem Cz:cz E0 60 42 [dI 5] []=some (oO,none):=by kernel_rfl
theorem CJ:cz E0 60 42 [dI 2] []=some (qF,some oQ):=by kernel_rfl
theorem CK:cz E0 60 42 [dI 3] []=some (qG,some oU):=by kernel_rfl
theorem CU:cz E0 60 42 [dI 4] []=some (qH,some oV):=by kernel_rfl
theorem vk {N g:Nat}{args:List FV}{r:FV × Option (List ah)}(h:cz E0 N g args []=some r)(m:Nat)(hm:N<=m):CL E0 m g args []=some r:=by rw[jS];exact yX h hm
def CW (k:Int):Nat:=if k=1 then 108 else if k=2 then 122 else if k=3 then 133 else if k=4 then 139 else 149
theorem aN {k:Int}(hk:single k=true):k=1\/k=2\/k=3\/k=4\/k=5:=by
 simp only[single,Qd0,decide_eq_true_eq]at hk;omega
theorem Va (k:Int)(hk:single k=true)(w:W)(hw:w.OK):Ca E0 (CW k) [.d w.d] (dB (gH k w),none):=by
 rcases aN hk with rfl|rfl|rfl|rfl|rfl
 ·exact O8 w hw
 ·exact aab w hw
 ·exact aae w hw
 ·exact aac w hw
 ·exact aad w hw
def W.ps:W->List W
 | .mk _ _ _ _ _ _ _ ps=>ps
def W.bare:W->Bool
 | .mk s a b c i u p _=>q0 s a b&&(c==0) && !i&&(u==0)&&p.isEmpty
def uZ:List Int->List W->Bool
 | k::r,w::s=>gH k w&&uZ r s
 | _,_=>true
def fH (k:Int)(ps:List Int)(w:W):Bool:=aM k ps&&(if k≠6 then gH k w else(w.ps.length==ps.length)&&w.bare&&uZ ps w.ps)
mutual
theorem W.O_:∀ w:W,w.eq w=true
 | .mk s a b c i u p ps=>by
  simp only[W.eq,Cv FN,W.xz ps];simp
theorem W.xz:∀ l:List W,W.eqs l l=true
 | []=>rfl
 | w::r=>by simp[W.eqs,W.O_ w,W.xz r]
end
theorem eq_bare (s:Bool)(a b:List Nat)(c:Int)(i:Bool)(u:Int)(p:List Mo)(ps:List W):W.eq (.mk s a b c i u p ps) (.mk false [] [] 0 false 0 [] ps)=W.bare (.mk s a b c i u p ps):=by
 simp only[W.eq,Bt,W.xz,xx,W.bare];cases i<;>simp
theorem Vb (s:Bool)(a b:List Nat)(c:Int)(i:Bool)(u:Int)(p:List Mo)(ps:List W):W.eq (.mk false [] [] 0 false 0 [] ps) (.mk s a b c i u p ps)=W.bare (.mk s a b c i u p ps):=by
 have e1:(false==s&&decide ([]=a)&&decide ([]=b))=q0 s a b:=by
  unfold q0;have h1:decide (([]:List Nat)=a)=decide (a=[]):=by congr 1;exact propext ⟨fun h=>h.symm,fun h=>h.symm⟩
  have h2:decide (([]:List Nat)=b)=decide (b=[]):=by congr 1;exact propext ⟨fun h=>h.symm,fun h=>h.symm⟩
  rw[h1,h2];cases s<;>rfl
 have e2:∀ l:List Mo,lK Mo.eq [] l=l.isEmpty:=by intro l;cases l<;>rfl
 have e3:∀ x:Int,((0:Int)==x)=(x==0):=by
  intro x
  by_cases h:x=0
  ·rw[h]
  ·rw[beq_eq_false_iff_ne.2 h,beq_eq_false_iff_ne.2 (Ne.symm h)]
 simp only[W.eq,e1,e2,e3,W.xz,W.bare];cases i<;>simp
def MZ:aF:=f18.body.r.r.r.r.l.r.bl.lp
def Y2 (rb:ah)(wb:List FV)(ks:List Int)(j:Nat)(bs:List ah)(t:FV):St:=(st0 [.u,.u,.u,rL 1,.u,.u,.u,.u,.u,.u,.d (.s 1 (LK .i64 ks)),dI ks.length,dI j,t,.u] (rb::.box wb::bs))
def ckF (rb:ah)(wb:List FV)(bs:List ah):St:=(st0 (.u::.u::.u::.u::dB false::rT) (rb::.box wb::bs))
theorem Vd (rb:ah)(p1 p2 p3 p4 p5 p6 p7:D)(ws:List W)(ks:List Int)(j:Nat)(bs:List ah)(k:Int)(w:W)(hl:ks.length<=1000000)(hk:ks[j]?=some k)(hw:ws[j]?=some w)(hs:single k=true)(ok:w.OK) :
  ∃ bs',Ex E0 MZ (Y2 rb [.d p1,.d p2,.d p3,.d p4,.d p5,.d p6,.d p7,.d (.s 8 (W.ds ws))] ks j bs .u)
   (if gH k w then(.norm,Y2 rb [.d p1,.d p2,.d p3,.d p4,.d p5,.d p6,.d p7,.d (.s 8 (W.ds ws))] ks (j+1) bs' .u) else(.ret,ckF rb [.d p1,.d p2,.d p3,.d p4,.d p5,.d p6,.d p7,.d (.s 8 (W.ds ws))] bs')):=by
 have hj:=(aT hk)
 have hj2:=(aT hw)
 obtain⟨n1,t1⟩:=(Va k hs w ok).any;replace t1:=t1 (n1+60) ae;have n1':(LK .i64 ks).length=ks.length:=by simp[LK]
 have QT:(W.ds ws).length=ws.length:=by simp[W.gG]
 have e1:(LK .i64 ks)[j]?=some (vI k):=by simp[LK,hk]
 have e2:(W.ds ws)[j]?=some w.d:=by simp[W.gG,hw]
 have aW:ak .i64 ((j:Int)+1)=(j:Int)+1:=wrap_i64 ae;have hk1:((j+1:Nat):Int)=(j:Int)+1:=ae;have hk0:(0:Int)<=(j:Int):=ae;obtain⟨vv,hvv⟩:∃ vv,gH k w=vv:=⟨_,rfl⟩
 rw[hvv]at t1 ⊢;obtain⟨sx,ax,bx,cx,ix,ux,px,MP⟩:=w;simp only[W.d,PD,LD]at*;generalize LL ax=x1,LL bx=x2,List.map Mo.d px=x5,W.ds MP=x7 at*;unfold Y2 ckF;rw[hk1];generalize W.ds ws=es2 at*;have i2:=idx e2;have five:=aN hs;clear hs ok hvv hw;rcases five with rfl|rfl|rfl|rfl|rfl
 ·have t2:=fun m=>vk Cy (n1+60+m) ae
  have hF:CW 1=108:=rfl;rw[hF]at t1;clear hk;generalize LK .i64 ks=es1 at*;have i1:=idx e1;generalize n1+60=N at*;refine⟨bs,Ex.of (n:=N+300) ?_⟩;simp only[oP,A8]at t2 ⊢;cases vv
  ·simp[MZ,f18,hj,hj2,hk0,i1,i2,n1',QT,t1,t2]
  ·simp[MZ,f18,hj,hj2,hk0,i1,i2,n1',QT,t1,t2,aW]
 ·have t2:=fun m=>vk CJ (n1+60+m) ae
  have hF:CW 2=122:=rfl;rw[hF]at t1;clear hk;generalize LK .i64 ks=es1 at*;have i1:=idx e1;generalize n1+60=N at*;refine⟨bs++oQ.map (ah.shift (bs.length+2)),Ex.of (n:=N+300) ?_⟩;simp only[qF,nA,oQ]at t2 ⊢;cases vv
  ·simp[MZ,f18,hj,hj2,hk0,i1,i2,n1',QT,t1,t2]
  ·simp[MZ,f18,hj,hj2,hk0,i1,i2,n1',QT,t1,t2,aW]
 ·have t2:=fun m=>vk CK (n1+60+m) ae
  have hF:CW 3=133:=rfl;rw[hF]at t1;clear hk;generalize LK .i64 ks=es1 at*;have i1:=idx e1;generalize n1+60=N at*;refine⟨bs++oU.map (ah.shift (bs.length+2)),Ex.of (n:=N+300) ?_⟩;simp only[qG,nC,oU]at t2 ⊢;cases vv
  ·simp[MZ,f18,hj,hj2,hk0,i1,i2,n1',QT,t1,t2]
  ·simp[MZ,f18,hj,hj2,hk0,i1,i2,n1',QT,t1,t2,aW]
 ·have t2:=fun m=>vk CU (n1+60+m) ae
  have hF:CW 4=139:=rfl;rw[hF]at t1;clear hk;generalize LK .i64 ks=es1 at*;have i1:=idx e1;generalize n1+60=N at*;refine⟨bs++oV.map (ah.shift (bs.length+2)),Ex.of (n:=N+300) ?_⟩;simp only[qH,nD,oV]at t2 ⊢;cases vv
  ·simp[MZ,f18,hj,hj2,hk0,i1,i2,n1',QT,t1,t2]
  ·simp[MZ,f18,hj,hj2,hk0,i1,i2,n1',QT,t1,t2,aW]
 ·have t2:=fun m=>vk Cz (n1+60+m) ae
  have hF:CW 5=149:=rfl;rw[hF]at t1;clear hk;have i1:=idx e1;generalize n1+60=N at*;refine⟨bs,Ex.of (n:=N+300) ?_⟩;simp only[oO]at t2 ⊢;cases vv
  ·simp[MZ,f18,hj,hj2,hk0,i1,i2,n1',QT,t1,t2]
  ·simp[MZ,f18,hj,hj2,hk0,i1,i2,n1',QT,t1,t2,aW]
theorem aaf (rb:ah)(p1 p2 p3 p4 p5 p6 p7:D)(ws:List W)(ks:List Int)(hl:ks.length<=1000000)(he:ws.length=ks.length)(hs:ks.all single=true)(ok:∀ w ∈ ws,w.OK) :
  ∃ r,Ex E0 (.loop MZ) (Y2 rb [.d p1,.d p2,.d p3,.d p4,.d p5,.d p6,.d p7,.d (.s 8 (W.ds ws))] ks 0 [] .u) r /\
   ((uZ ks ws=true/\∃ bs,r=(.exit 0,Y2 rb [.d p1,.d p2,.d p3,.d p4,.d p5,.d p6,.d p7,.d (.s 8 (W.ds ws))] ks ks.length bs (dB false))) \/
    (uZ ks ws=false/\∃ bs,r=(.ret,ckF rb [.d p1,.d p2,.d p3,.d p4,.d p5,.d p6,.d p7,.d (.s 8 (W.ds ws))] bs))):=by
 refine Ex.inv (S:=fun t:Nat × List ah=>Y2 rb [.d p1,.d p2,.d p3,.d p4,.d p5,.d p6,.d p7,.d (.s 8 (W.ds ws))] ks t.1 t.2 .u) (fun t=>ks.length-t.1) (fun t=>t.1<=ks.length/\uZ ks ws=uZ (ks.drop t.1) (ws.drop t.1)) _ ?_ (0,[]) ⟨aC,aC⟩;rintro⟨j,bs⟩ ⟨q1,q2⟩;simp only at q1 q2
 by_cases hj:j<ks.length
 ·have hk:ks[j]?=some (ks[j]'hj):=Qa1 hj;have hw:ws[j]?=some (ws[j]'(by omega)):=Qa1 ae;have d1:ks.drop j=ks[j]'hj::ks.drop (j+1):=Qj2 hj;have d2:ws.drop j=ws[j]'(by omega)::ws.drop (j+1):=Qj2 ae;obtain⟨bs',hr⟩:=Vd rb p1 p2 p3 p4 p5 p6 p7 ws ks j bs _ _ hl hk hw (Qh2.1 hs _ (Qi0 hj)) (ok _ (Qi0 ae));rw[d1,d2]at q2;simp only[uZ]at q2;cases hv:gH (ks[j]'hj) (ws[j]'(by omega))
  ·rw[hv]at hr q2;exact .inr ⟨_,hr,aC,.inr ⟨by simpa using q2,bs',rfl⟩⟩
  ·rw[hv]at hr q2;exact .inl ⟨(j+1,bs'),hr,by simp only;omega,by simp only;omega,by simpa using q2⟩
 ·have jJ:j=ks.length:=ae;subst jJ;rw[Qv1]at q2;refine .inr ⟨_,Ex.of (n:=60) ?_,?_,.inl ⟨by rw[q2];rfl,bs,rfl⟩⟩
  ·unfold Y2;generalize W.ds ws=l2,ks.length=m at*;simp[MZ,f18]
  ·simp
theorem QU (ps:List Int)(w:W)(hl:ps.length<=1000000)(hw:w.OK)(xA:aM 6 ps=true)(hv:∀ n,CL E0 (n+500) 31 [.d (aU 6 ps)] []=some (dB true,none)) :
  Ca E0 18 [.d (aU 6 ps),.d w.d] (dB ((w.ps.length==ps.length)&&w.bare&&uZ ps w.ps),none):=by
 have hs:ps.all single=true:=by
  unfold aM at xA;rw[if_neg aC]at xA;simp only[Qd0]at xA;exact xA.2
 have ok:=hw;cases hw with
 | @mk s a b c i u p ws ha hb la lb hp lp hok =>
  simp only[W.ps];have n1:(LK .i64 ps).length=ps.length:=by simp[LK]
  have n2:(W.ds ws).length=ws.length:=by simp[W.gG]
  obtain⟨N,t⟩:=(pI _ ok _ (.mk (s:=false) (a:=[]) (b:=[]) (c:=0) (i:=false) (u:=0) (p:=[]) lF lF aC aC Cw lp hok)).any;rw[eq_bare]at t;generalize hbare:W.bare (.mk s a b c i u p ws)=bare at*
  by_cases hlen:ws.length=ps.length
  ·have hl1:(ws.length==ps.length)=true:=by simpa using hlen
   have hne:((ws.length:Int) != (ps.length:Int))=false:=by simp;omega
   rw[hl1,Qs1];cases hbb:bare
   ·rw[hbb]at t;rw[Q60];replace t:=t N ae;refine Ca.bQ (n:=N+700) ?_;rw[aA rfl (k18:E0.fn _=_) rfl];have hv':=fun n=>hv (N+n)
    simp only[W.d,W.ds,PD,LD,aU]at*;generalize LL a=x1,LL b=x2 at*;simp only[LL,Qc2]at*;generalize List.map Mo.d p=x5,W.ds ws=x7,LK .i64 ps=l1 at*;simp[f18,hv,t,n1,n2,hne]
   ·rw[hbb]at t;rw[Qs1];obtain⟨r,hr,hq⟩:=aaf (.box [dI 6,.d (.s 1 (LK .i64 ps))]) (vB s) (LD a) (LD b) (vI c) (vB i) (.v (.int .u64 u)) (PD p) ws ps hl hlen hs hok;replace t:=t N ae;have hA:Ex E0 f18.body.l (st0 (.d (aU 6 ps)::.d (W.mk s a b c i u p ws).d::EZ) [])
      (.norm,(st0 (.u::.u::rL 0::rL 1::GX) [.box [dI 6,.d (.s 1 (LK .i64 ps))],.box [dB s,.d (LD a),.d (LD b),dI c,dB i,.d (.v (.int .u64 u)),.d (PD p),.d (.s 8 (W.ds ws))]])):=by
     refine Ex.of (n:=40) ?_;simp only[W.d,PD,LD,aU];generalize LL a=x1,LL b=x2,List.map Mo.d p=x5,W.ds ws=x7,LK .i64 ps=l1 at*;simp[f18]
    have hB:Ex E0 f18.body.r.l (st0 (.u::.u::rL 0::rL 1::GX) [.box [dI 6,.d (.s 1 (LK .i64 ps))],.box [dB s,.d (LD a),.d (LD b),dI c,dB i,.d (.v (.int .u64 u)),.d (PD p),.d (.s 8 (W.ds ws))]])
      (.norm,(st0 (.u::.u::rL 0::rL 1::.u::.u::.u::dB false::rX) [.box [dI 6,.d (.s 1 (LK .i64 ps))],.box [dB s,.d (LD a),.d (LD b),dI c,dB i,.d (.v (.int .u64 u)),.d (PD p),.d (.s 8 (W.ds ws))]])):=by
     clear hr hq hA;refine Ex.of (n:=600) ?_;simp only[PD,LD,aU]at hv ⊢;generalize LL a=x1,LL b=x2,List.map Mo.d p=x5,W.ds ws=x7,LK .i64 ps=l1 at*;simp[f18,hv]
    have hC:Ex E0 f18.body.r.r.l (st0 (.u::.u::rL 0::rL 1::.u::.u::.u::dB false::rX) [.box [dI 6,.d (.s 1 (LK .i64 ps))],.box [dB s,.d (LD a),.d (LD b),dI c,dB i,.d (.v (.int .u64 u)),.d (PD p),.d (.s 8 (W.ds ws))]])
      (.norm,(st0 (.u::.u::rL 0::rL 1::.u::.u::.u::.u::dB false::uV) [.box [dI 6,.d (.s 1 (LK .i64 ps))],.box [dB s,.d (LD a),.d (LD b),dI c,dB i,.d (.v (.int .u64 u)),.d (PD p),.d (.s 8 (W.ds ws))]])):=by
     apply e6;simp only[PD,LD];generalize LL a=x1,LL b=x2,List.map Mo.d p=x5,W.ds ws=x7,LK .i64 ps=l1 at*;simp[f18]
    have hD:Ex E0 f18.body.r.r.r.l (st0 (.u::.u::rL 0::rL 1::.u::.u::.u::.u::dB false::uV) [.box [dI 6,.d (.s 1 (LK .i64 ps))],.box [dB s,.d (LD a),.d (LD b),dI c,dB i,.d (.v (.int .u64 u)),.d (PD p),.d (.s 8 (W.ds ws))]])
      (.norm,(st0 [.u,.u,rL 0,rL 1,.u,.u,.u,.u,.u,dB false,.u,.u,.u,.u,.u] [.box [dI 6,.d (.s 1 (LK .i64 ps))],.box [dB s,.d (LD a),.d (LD b),dI c,dB i,.d (.v (.int .u64 u)),.d (PD p),.d (.s 8 (W.ds ws))]])):=by
     clear hr hq hA hB hC hv;refine Ex.of (n:=N+90) ?_;simp only[W.d,PD,LD,W.ds]at t ⊢;generalize LL a=x1,LL b=x2 at*;simp only[LL,Qc2]at t;generalize List.map Mo.d p=x5,W.ds ws=x7,LK .i64 ps=l1 at*;simp[f18,t,n1,n2,hne]
    have hE:Ex E0 f18.body.r.r.r.r.l.l (st0 [.u,.u,rL 0,rL 1,.u,.u,.u,.u,.u,dB false,.u,.u,.u,.u,.u] [.box [dI 6,.d (.s 1 (LK .i64 ps))],.box [dB s,.d (LD a),.d (LD b),dI c,dB i,.d (.v (.int .u64 u)),.d (PD p),.d (.s 8 (W.ds ws))]])
      (.norm,Y2 (.box [dI 6,.d (.s 1 (LK .i64 ps))]) [dB s,.d (LD a),.d (LD b),dI c,dB i,.d (.v (.int .u64 u)),.d (PD p),.d (.s 8 (W.ds ws))] ps 0 [] .u):=by
     apply e6;unfold Y2;simp only[PD,LD];generalize LL a=x1,LL b=x2,List.map Mo.d p=x5,W.ds ws=x7,LK .i64 ps=l1 at*;simp[f18,n1]
    rcases hq with ⟨hall,bs,rfl⟩|⟨hall,bs,rfl⟩
    ·rw[hall];refine Ca.body (o:=.ret) (st1:=(st0 (.u::.u::.u::.u::dB true::rT) (.box [dI 6,.d (.s 1 (LK .i64 ps))]::.box [dB s,.d (LD a),.d (LD b),dI c,dB i,.d (.v (.int .u64 u)),.d (PD p),.d (.s 8 (W.ds ws))]::bs))) rfl (k18:E0.fn _=_) rfl ?_ (by intro id h;cases h) ?_
     ·show Ex E0 (.seq f18.body.l (.seq f18.body.r.l (.seq f18.body.r.r.l (.seq f18.body.r.r.r.l (.seq (.seq f18.body.r.r.r.r.l.l (.block 0 (.loop MZ))) f18.body.r.r.r.r.r))))) _ _;refine hA.seq (hB.seq (hC.seq (hD.seq ((hE.seq hr.block).seq (Ex.of (n:=40) ?_)))));unfold Y2;generalize LK .i64 ps=l1 at*;simp[f18]
     ·simp[f18]
    ·rw[hall];refine Ca.body (o:=.ret) (st1:=ckF (.box [dI 6,.d (.s 1 (LK .i64 ps))]) [dB s,.d (LD a),.d (LD b),dI c,dB i,.d (.v (.int .u64 u)),.d (PD p),.d (.s 8 (W.ds ws))] bs) rfl (k18:E0.fn _=_) rfl ?_ (by intro id h;cases h) ?_
     ·show Ex E0 (.seq f18.body.l (.seq f18.body.r.l (.seq f18.body.r.r.l (.seq f18.body.r.r.r.l (.seq (.seq f18.body.r.r.r.r.l.l (.block 0 (.loop MZ))) f18.body.r.r.r.r.r))))) _ _;exact hA.seq (hB.seq (hC.seq (hD.seq (hE.seq hr.dR).gp)))
     ·simp[f18,ckF]
  ·have hl1:(ws.length==ps.length)=false:=by simpa using hlen
   have hne:((ws.length:Int) != (ps.length:Int))=true:=by simp;omega
   rw[hl1,Q60,Q60];refine Ca.bQ (n:=700) ?_;rw[aA rfl (k18:E0.fn _=_) rfl];simp only[W.d,PD,LD,aU]at*;generalize LL a=x1,LL b=x2,List.map Mo.d p=x5,W.ds ws=x7 at*;simp[f18,hv,n1,n2,hne]
theorem QV (k:Int)(ps:List Int)(w:W)(hk:k≠6)(hw:w.OK)(xA:aM k ps=true)(hv:∀ n,CL E0 (n+500) 31 [.d (aU k ps)] []=some (dB true,none)) :
  Ca E0 18 [.d (aU k ps),.d w.d] (dB (gH k w),none):=by
 have hne:(k != 6)=true:=by simpa using hk
 have hs:single k=true:=by
  unfold aM at xA;rw[if_pos hk]at xA;simp only[Qd0]at xA;exact xA.1
 obtain⟨n1,t1⟩:=(Va k hs w hw).any;replace t1:=t1 (n1+600) ae;have hv':∀ m,CL E0 (n1+600+m) 31 [.d (aU k ps)] []=some (dB true,none):=fun m=>by
  have:=hv (n1+100+m)
  rwa [show n1+100+m+500=n1+600+m by omega]at this
 clear hv;generalize gH k w=vv at*;clear xA hw;obtain⟨sx,ax,bx,cx,ix,ux,px,MP⟩:=w;simp only[W.d,PD,LD,aU]at*;generalize LL ax=x1,LL bx=x2,List.map Mo.d px=x5,W.ds MP=x7 at*;rcases aN hs with rfl|rfl|rfl|rfl|rfl
 ·have t2:=fun m=>vk Cy (n1+600+m) ae
  have hF:CW 1=108:=rfl;rw[hF]at t1;generalize n1+600=N at*;refine Ca.bQ (n:=N+90) ?_;rw[aA rfl (k18:E0.fn _=_) rfl];simp only[oP,A8]at t2;generalize LK .i64 ps=l1 at*;simp[f18,hv',t1,t2]
 ·have t2:=fun m=>vk CJ (n1+600+m) ae
  have hF:CW 2=122:=rfl;rw[hF]at t1;generalize n1+600=N at*;refine Ca.bQ (n:=N+90) ?_;rw[aA rfl (k18:E0.fn _=_) rfl];simp only[qF,nA,oQ]at t2;generalize LK .i64 ps=l1 at*;simp[f18,hv',t1,t2]
 ·have t2:=fun m=>vk CK (n1+600+m) ae
  have hF:CW 3=133:=rfl;rw[hF]at t1;generalize n1+600=N at*;refine Ca.bQ (n:=N+90) ?_;rw[aA rfl (k18:E0.fn _=_) rfl];simp only[qG,nC,oU]at t2;generalize LK .i64 ps=l1 at*;simp[f18,hv',t1,t2]
 ·have t2:=fun m=>vk CU (n1+600+m) ae
  have hF:CW 4=139:=rfl;rw[hF]at t1;generalize n1+600=N at*;refine Ca.bQ (n:=N+90) ?_;rw[aA rfl (k18:E0.fn _=_) rfl];simp only[qH,nD,oV]at t2;generalize LK .i64 ps=l1 at*;simp[f18,hv',t1,t2]
 ·have t2:=fun m=>vk Cz (n1+600+m) ae
  have hF:CW 5=149:=rfl;rw[hF]at t1;generalize n1+600=N at*;refine Ca.bQ (n:=N+90) ?_;rw[aA rfl (k18:E0.fn _=_) rfl];simp only[oO]at t2;simp[f18,hv',t1,t2]
theorem CY (k:Int)(ps:List Int)(w:W)(hl:ps.length<=1000000)(hw:w.OK):Ca E0 18 [.d (aU k ps),.d w.d] (dB (fH k ps w),none):=by
 have hv:=fun n=>qE n k ps
 unfold fH;cases xA:aM k ps
 ·rw[xA]at hv;rw[Q60];refine Ca.bQ (n:=600) ?_;rw[aA rfl (k18:E0.fn _=_) rfl];obtain⟨sx,ax,bx,cx,ix,ux,px,MP⟩:=w;simp only[W.d,PD,LD,aU]at*;generalize LL ax=x1,LL bx=x2,List.map Mo.d px=x5,W.ds MP=x7 at*;simp[f18,hv]
 ·rw[xA]at hv;rw[Qs1]
  by_cases hk:k=6
  ·subst hk;rw[if_neg aC];exact QU ps w hl hw xA hv
  ·rw[if_pos hk];exact QV k ps w hk hw xA hv
def wcB:aF:=f29.body.r.r.r.r.l.r.bl.lp
def Y3 (k:Int)(ks:List Int)(wb:List FV)(j:Nat)(t:FV):St:=(st0 [.u,.u,rL 0,rL 1,.u,dI j,.u,.u,.u,t,.u] [.box [dI k,.d (.s 1 (LK .i64 ks))],.box wb])
def wcF (k:Int)(ks:List Int)(wb:List FV):St:=(st0 (.u::.u::.u::.u::dB false::uV) [.box [dI k,.d (.s 1 (LK .i64 ks))],.box wb])
theorem Ve (k0:Int)(p1 p2 p3 p4 p5 p6 p7:D)(ws:List W)(ks:List Int)(j:Nat)(k:Int)(w:W)(hl:ks.length<=1000000)(hk:ks[j]?=some k)(hw:ws[j]?=some w)(hs:single k=true)(ok:w.OK) :
  Ex E0 wcB (Y3 k0 ks [.d p1,.d p2,.d p3,.d p4,.d p5,.d p6,.d p7,.d (.s 8 (W.ds ws))] j .u)
   (if gH k w then(.norm,Y3 k0 ks [.d p1,.d p2,.d p3,.d p4,.d p5,.d p6,.d p7,.d (.s 8 (W.ds ws))] (j+1) .u) else(.ret,wcF k0 ks [.d p1,.d p2,.d p3,.d p4,.d p5,.d p6,.d p7,.d (.s 8 (W.ds ws))])):=by
 have hj:=(aT hk)
 have hj2:=(aT hw)
 obtain⟨N,t1⟩:=(FO k hs w ok).get;have n1':(LK .i64 ks).length=ks.length:=by simp[LK]
 have QT:(W.ds ws).length=ws.length:=by simp[W.gG]
 have e1:(LK .i64 ks)[j]?=some (vI k):=by simp[LK,hk]
 have e2:(W.ds ws)[j]?=some w.d:=by simp[W.gG,hw]
 have aW:ak .i64 ((j:Int)+1)=(j:Int)+1:=wrap_i64 ae;have hk1:((j+1:Nat):Int)=(j:Int)+1:=ae;have hk0:(0:Int)<=(j:Int):=ae;generalize gH k w=vv at*;clear hs ok hw hk;obtain⟨sx,ax,bx,cx,ix,ux,px,MP⟩:=w;simp only[W.d,PD,LD]at*;generalize LL ax=x1,LL bx=x2,List.map Mo.d px=x5,W.ds MP=x7 at*;refine Ex.of (n:=N+90) ?_;unfold Y3 wcF;rw[hk1];generalize W.ds ws=es2 at*;have i1:=idx e1;have i2:=idx e2;cases vv
 ·simp[wcB,f29,hj,hj2,hk0,e1,e2,i1,i2,n1',QT,t1]
 ·simp[wcB,f29,hj,hj2,hk0,e1,e2,i1,i2,n1',QT,t1,aW]
theorem aag (k0:Int)(p1 p2 p3 p4 p5 p6 p7:D)(ws:List W)(ks:List Int)(hl:ks.length<=1000000)(he:ws.length=ks.length)(hs:ks.all single=true)(ok:∀ w ∈ ws,w.OK) :
  ∃ r,Ex E0 (.loop wcB) (Y3 k0 ks [.d p1,.d p2,.d p3,.d p4,.d p5,.d p6,.d p7,.d (.s 8 (W.ds ws))] 0 .u) r /\
   ((uZ ks ws=true/\r=(.exit 0,Y3 k0 ks [.d p1,.d p2,.d p3,.d p4,.d p5,.d p6,.d p7,.d (.s 8 (W.ds ws))] ks.length (dB false))) \/
    (uZ ks ws=false/\r=(.ret,wcF k0 ks [.d p1,.d p2,.d p3,.d p4,.d p5,.d p6,.d p7,.d (.s 8 (W.ds ws))]))):=by
 refine Ex.inv (S:=fun j:Nat=>Y3 k0 ks [.d p1,.d p2,.d p3,.d p4,.d p5,.d p6,.d p7,.d (.s 8 (W.ds ws))] j .u) (fun j=>ks.length-j) (fun j=>j<=ks.length/\uZ ks ws=uZ (ks.drop j) (ws.drop j)) _ ?_ 0 ⟨aC,aC⟩;rintro j ⟨q1,q2⟩
 by_cases hj:j<ks.length
 ·have hk:ks[j]?=some (ks[j]'hj):=Qa1 hj;have hw:ws[j]?=some (ws[j]'(by omega)):=Qa1 ae;have d1:ks.drop j=ks[j]'hj::ks.drop (j+1):=Qj2 hj;have d2:ws.drop j=ws[j]'(by omega)::ws.drop (j+1):=Qj2 ae;have hr:=Ve k0 p1 p2 p3 p4 p5 p6 p7 ws ks j _ _ hl hk hw (Qh2.1 hs _ (Qi0 hj)) (ok _ (Qi0 ae));rw[d1,d2]at q2;simp only[uZ]at q2;cases hv:gH (ks[j]'hj) (ws[j]'(by omega))
  ·rw[hv]at hr q2;exact .inr ⟨_,hr,aC,.inr ⟨by simpa using q2,rfl⟩⟩
  ·rw[hv]at hr q2;exact .inl ⟨j+1,hr,ae,ae,by simpa using q2⟩
 ·have jJ:j=ks.length:=ae;subst jJ;have n1':(LK .i64 ks).length=ks.length:=by simp[LK]
  rw[Qv1]at q2;refine .inr ⟨_,Ex.of (n:=60) ?_,?_,.inl ⟨by rw[q2];rfl,rfl⟩⟩
  ·unfold Y3;generalize W.ds ws=l2,ks.length=m at*;simp[wcB,f29,n1']
  ·simp
theorem M0 (ps:List Int)(w:W)(hl:ps.length<=1000000)(hw:w.OK)(xA:aM 6 ps=true)(hv:∀ n,CL E0 (n+500) 28 [.d (aU 6 ps)] []=some (dB true,none)) :
  Ca E0 29 [.d (aU 6 ps),.d w.d] (dB ((w.ps.length==ps.length)&&w.bare&&uZ ps w.ps),none):=by
 have hs:ps.all single=true:=by
  unfold aM at xA;rw[if_neg aC]at xA;simp only[Qd0]at xA;exact xA.2
 have ok:=hw;cases hw with
 | @mk s a b c i u p ws ha hb la lb hp lp hok =>
  simp only[W.ps];have n1:(LK .i64 ps).length=ps.length:=by simp[LK]
  have n2:(W.ds ws).length=ws.length:=by simp[W.gG]
  obtain⟨N,t⟩:=(yU _ (.mk (s:=false) (a:=[]) (b:=[]) (c:=0) (i:=false) (u:=0) (p:=[]) lF lF aC aC Cw lp hok) _ ok).any;rw[Vb]at t;generalize hbare:W.bare (.mk s a b c i u p ws)=bare at*
  by_cases hlen:ws.length=ps.length
  ·have hl1:(ws.length==ps.length)=true:=by simpa using hlen
   have hne:((ws.length:Int) != (ps.length:Int))=false:=by simp;omega
   rw[hl1,Qs1];have hA:Ex E0 f29.body.l (st0 (.d (aU 6 ps)::.d (W.mk s a b c i u p ws).d::OU) [])
     (.norm,(st0 (.u::.u::rL 0::rL 1::rX) [.box [dI 6,.d (.s 1 (LK .i64 ps))],.box [dB s,.d (LD a),.d (LD b),dI c,dB i,.d (.v (.int .u64 u)),.d (PD p),.d (.s 8 (W.ds ws))]])):=by
    refine Ex.of (n:=40) ?_;simp only[W.d,PD,LD,aU];generalize LL a=x1;generalize LL b=x2;generalize List.map Mo.d p=x5;generalize W.ds ws=x7;generalize LK .i64 ps=l1;simp[f29]
   have hB:Ex E0 f29.body.r.l (st0 (.u::.u::rL 0::rL 1::rX) [.box [dI 6,.d (.s 1 (LK .i64 ps))],.box [dB s,.d (LD a),.d (LD b),dI c,dB i,.d (.v (.int .u64 u)),.d (PD p),.d (.s 8 (W.ds ws))]])
     (.norm,(st0 [.u,.u,rL 0,rL 1,.u,.u,dB false,.u,.u,.u,.u] [.box [dI 6,.d (.s 1 (LK .i64 ps))],.box [dB s,.d (LD a),.d (LD b),dI c,dB i,.d (.v (.int .u64 u)),.d (PD p),.d (.s 8 (W.ds ws))]])):=by
    refine Ex.of (n:=600) ?_;simp only[PD,LD,aU]at hv ⊢;generalize LL a=x1;generalize LL b=x2;generalize List.map Mo.d p=x5;generalize W.ds ws=x7;generalize LK .i64 ps=l1 at hv ⊢;simp[f29,hv]
   have hC:Ex E0 f29.body.r.r.l (st0 [.u,.u,rL 0,rL 1,.u,.u,dB false,.u,.u,.u,.u] [.box [dI 6,.d (.s 1 (LK .i64 ps))],.box [dB s,.d (LD a),.d (LD b),dI c,dB i,.d (.v (.int .u64 u)),.d (PD p),.d (.s 8 (W.ds ws))]])
     (.norm,(st0 [.u,.u,rL 0,rL 1,.u,.u,.u,dB false,.u,.u,.u] [.box [dI 6,.d (.s 1 (LK .i64 ps))],.box [dB s,.d (LD a),.d (LD b),dI c,dB i,.d (.v (.int .u64 u)),.d (PD p),.d (.s 8 (W.ds ws))]])):=by
    apply e6;simp only[PD,LD];generalize LL a=x1;generalize LL b=x2;generalize List.map Mo.d p=x5;generalize W.ds ws=x7;generalize LK .i64 ps=l1;simp[f29]
   cases hbb:bare
   ·rw[hbb]at t;rw[Q60];replace t:=t N ae;refine Ca.body (o:=.ret) (st1:=(st0 (.u::.u::.u::.u::dB false::uV) [.box [dI 6,.d (.s 1 (LK .i64 ps))],.box [dB s,.d (LD a),.d (LD b),dI c,dB i,.d (.v (.int .u64 u)),.d (PD p),.d (.s 8 (W.ds ws))]])) rfl (k29:E0.fn _=_) rfl ?_ (by intro id h;cases h) ?_
    ·show Ex E0 (.seq f29.body.l (.seq f29.body.r.l (.seq f29.body.r.r.l f29.body.r.r.r))) _ _;refine hA.seq (hB.seq (hC.seq (Ex.of (n:=N+90) ?_)));simp only[W.d,PD,LD,W.ds]at t ⊢;generalize LL a=x1 at t ⊢;generalize LL b=x2 at t ⊢;simp only[LL,Qc2]at t;generalize List.map Mo.d p=x5 at t ⊢;generalize W.ds ws=x7 at t n2 ⊢;generalize LK .i64 ps=l1 at n1 ⊢;simp[f29,t,n1,n2,hne]
    ·simp[f29]
   ·rw[hbb]at t;rw[Qs1];obtain⟨r,hr,hq⟩:=aag 6 (vB s) (LD a) (LD b) (vI c) (vB i) (.v (.int .u64 u)) (PD p) ws ps hl hlen hs hok;replace t:=t N ae;have hD:Ex E0 f29.body.r.r.r.l (st0 [.u,.u,rL 0,rL 1,.u,.u,.u,dB false,.u,.u,.u] [.box [dI 6,.d (.s 1 (LK .i64 ps))],.box [dB s,.d (LD a),.d (LD b),dI c,dB i,.d (.v (.int .u64 u)),.d (PD p),.d (.s 8 (W.ds ws))]])
      (.norm,(st0 [.u,.u,rL 0,rL 1,.u,.u,.u,.u,dB false,.u,.u] [.box [dI 6,.d (.s 1 (LK .i64 ps))],.box [dB s,.d (LD a),.d (LD b),dI c,dB i,.d (.v (.int .u64 u)),.d (PD p),.d (.s 8 (W.ds ws))]])):=by
     refine Ex.of (n:=N+90) ?_;simp only[W.d,PD,LD,W.ds]at t ⊢;generalize LL a=x1 at t ⊢;generalize LL b=x2 at t ⊢;simp only[LL,Qc2]at t;generalize List.map Mo.d p=x5 at t ⊢;generalize W.ds ws=x7 at t n2 ⊢;generalize LK .i64 ps=l1 at n1 ⊢;simp[f29,t,n1,n2,hne]
    have hE:Ex E0 f29.body.r.r.r.r.l.l (st0 [.u,.u,rL 0,rL 1,.u,.u,.u,.u,dB false,.u,.u] [.box [dI 6,.d (.s 1 (LK .i64 ps))],.box [dB s,.d (LD a),.d (LD b),dI c,dB i,.d (.v (.int .u64 u)),.d (PD p),.d (.s 8 (W.ds ws))]])
      (.norm,Y3 6 ps [dB s,.d (LD a),.d (LD b),dI c,dB i,.d (.v (.int .u64 u)),.d (PD p),.d (.s 8 (W.ds ws))] 0 .u):=by
     apply e6;unfold Y3;simp only[PD,LD];generalize LL a=x1;generalize LL b=x2;generalize List.map Mo.d p=x5;generalize W.ds ws=x7;generalize LK .i64 ps=l1;simp[f29]
    rcases hq with ⟨hall,rfl⟩|⟨hall,rfl⟩
    ·rw[hall];refine Ca.body (o:=.ret) (st1:=(st0 (.u::.u::.u::.u::dB true::uV) [.box [dI 6,.d (.s 1 (LK .i64 ps))],.box [dB s,.d (LD a),.d (LD b),dI c,dB i,.d (.v (.int .u64 u)),.d (PD p),.d (.s 8 (W.ds ws))]])) rfl (k29:E0.fn _=_) rfl ?_ (by intro id h;cases h) ?_
     ·show Ex E0 (.seq f29.body.l (.seq f29.body.r.l (.seq f29.body.r.r.l (.seq f29.body.r.r.r.l (.seq (.seq f29.body.r.r.r.r.l.l (.block 0 (.loop wcB))) f29.body.r.r.r.r.r))))) _ _;refine hA.seq (hB.seq (hC.seq (hD.seq ((hE.seq hr.block).seq (Ex.of (n:=40) ?_)))));unfold Y3;generalize LK .i64 ps=l1;simp[f29]
     ·simp[f29]
    ·rw[hall];refine Ca.body (o:=.ret) (st1:=wcF 6 ps [dB s,.d (LD a),.d (LD b),dI c,dB i,.d (.v (.int .u64 u)),.d (PD p),.d (.s 8 (W.ds ws))]) rfl (k29:E0.fn _=_) rfl ?_ (by intro id h;cases h) ?_
     ·show Ex E0 (.seq f29.body.l (.seq f29.body.r.l (.seq f29.body.r.r.l (.seq f29.body.r.r.r.l (.seq (.seq f29.body.r.r.r.r.l.l (.block 0 (.loop wcB))) f29.body.r.r.r.r.r))))) _ _;exact hA.seq (hB.seq (hC.seq (hD.seq (hE.seq hr.dR).gp)))
     ·simp[f29,wcF]
  ·have hl1:(ws.length==ps.length)=false:=by simpa using hlen
   have hne:((ws.length:Int) != (ps.length:Int))=true:=by simp;omega
   rw[hl1,Q60,Q60];refine Ca.bQ (n:=700) ?_;rw[aA rfl (k29:E0.fn _=_) rfl];clear t hok ok;simp only[W.d,PD,LD,aU]at*;generalize LL a=x1,LL b=x2,List.map Mo.d p=x5,W.ds ws=x7 at*;simp[f29,hv,n1,n2,hne]
theorem FP (k:Int)(ps:List Int)(w:W)(hl:ps.length<=1000000)(hw:w.OK):Ca E0 29 [.d (aU k ps),.d w.d] (dB (fH k ps w),none):=by
 have hv:=fun n=>fJ n k ps
 unfold fH;cases xA:aM k ps
 ·rw[xA]at hv;rw[Q60];refine Ca.bQ (n:=600) ?_;rw[aA rfl (k29:E0.fn _=_) rfl];obtain⟨sx,ax,bx,cx,ix,ux,px,MP⟩:=w;simp only[W.d,PD,LD,aU]at*;generalize LL ax=x1,LL bx=x2,List.map Mo.d px=x5,W.ds MP=x7,LK .i64 ps=l1 at*;simp[f29,hv]
 ·rw[xA]at hv;rw[Qs1]
  by_cases hk:k=6
  ·subst hk;rw[if_neg aC];exact M0 ps w hl hw xA hv
  ·rw[if_pos hk];have hne:(k != 6)=true:=by simpa using hk
   have hs:single k=true:=by
    unfold aM at xA;rw[if_pos hk]at xA;simp only[Qd0]at xA;exact xA.1
   obtain⟨n1,t1⟩:=(FO k hs w hw).any;replace t1:=t1 (n1+600) ae;have hv':∀ m,CL E0 (n1+600+m) 28 [.d (aU k ps)] []=some (dB true,none):=fun m=>by
    have:=hv (n1+100+m)
    rwa [show n1+100+m+500=n1+600+m by omega]at this
   clear hv;generalize gH k w=vv,n1+600=N at*;clear xA hw;refine Ca.bQ (n:=N+90) ?_;rw[aA rfl (k29:E0.fn _=_) rfl];obtain⟨sx,ax,bx,cx,ix,ux,px,MP⟩:=w;simp only[W.d,PD,LD,aU]at*;generalize LL ax=x1,LL bx=x2,List.map Mo.d px=x5,W.ds MP=x7 at*;simp[f29,hv',t1,hne]
end Fi.S
