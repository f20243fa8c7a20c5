import Derived.Test.YthojoinggmjklaaGreatDoorCD
set_option linter.unusedVariables false
set_option linter.unusedSimpArgs false
noncomputable section
namespace Fi.S
open Go Fi
set_option maxHeartbeats 8000000
set_option maxRecDepth 4000
def bG (k:Int)(ps:List Int):D:=.a [.v (.int .i64 k),.s 1 (LK .i64 ps)]
def single (k:Int):Bool:=decide (1<=k)&&decide (k<=5)
def aQ (k:Int)(ps:List Int):Bool:=if k≠6 then single k&&decide (ps=[]) else decide (2<=ps.length)&&decide (ps.length<=3)&&ps.all single
theorem zA (n:Nat)(k:Int):CL E0 (n+30) 67 [.d (.v (.int .i64 k))] []=some (.d (.v (.bool (single k))),none):=by
 rw[aA rfl (k67:E0.fn _=_) rfl];unfold single
 by_cases h:1<=k
 ·by_cases h2:k<=5
  ·simp -implicitDefEqProofs[f67,h,h2]
  ·simp -implicitDefEqProofs[f67,h,h2]
 ·simp -implicitDefEqProofs[f67,h]
theorem ic (n:Nat)(k:Int):CL E0 (n+60) 69 [.d (.v (.int .i64 k))] []=some (.d (.v (.bool (!single k))),none):=by
 have h:=fun m=>zA m k
 rw[aA rfl (k69:E0.fn _=_) rfl];generalize single k=b at*;simp -implicitDefEqProofs[f69,h]
theorem Bz (n:Nat)(x y:Int):CL E0 (n+300) 68 [.d (.s 1 (LK .i64 [x,y])),.d (.fn 69)] []=some (.d (.v (.bool (!(single x&&single y)))),none):=by
 have h1:=fun m=>ic m x
 have h2:=fun m=>ic m y
 have w1:ak .i64 1=1:=wrap_i64 (by omega);have w2:ak .i64 2=2:=wrap_i64 (by omega);have hi:∃ v:Int,(decide (0<=v) = !(single x&&single y))/\∀ m,CL E0 (m+200) 100 [.d (.s 1 (LK .i64 [x,y])),.d (.fn 69)] []=some (.d (.v (.int .i64 v)),none):=by
  cases hx:single x
  ·refine⟨0,rfl,fun m => ?_⟩;rw[hx]at h1;rw[aA rfl (k100:E0.fn _=_) rfl];simp only[LK,List.map_cons,List.map_nil];simp -implicitDefEqProofs[f100,aG,h1]
  ·cases hy:single y
   ·refine⟨1,rfl,fun m => ?_⟩;rw[hx]at h1;rw[hy]at h2;rw[aA rfl (k100:E0.fn _=_) rfl];simp only[LK,List.map_cons,List.map_nil];simp -implicitDefEqProofs[f100,aG,w1,h1,h2]
   ·refine⟨-1,rfl,fun m => ?_⟩;rw[hx]at h1;rw[hy]at h2;rw[aA rfl (k100:E0.fn _=_) rfl];simp only[LK,List.map_cons,List.map_nil];simp -implicitDefEqProofs[f100,aG,w1,w2,h1,h2]
 obtain⟨v,hv,hi⟩:=hi;rw[aA rfl (k68:E0.fn _=_) rfl];rw[<-hv];generalize LK .i64 [x,y]=l at*;simp -implicitDefEqProofs[f68,hi]
theorem BA (n:Nat)(x y z:Int):CL E0 (n+300) 68 [.d (.s 1 (LK .i64 [x,y,z])),.d (.fn 69)] []=some (.d (.v (.bool (!(single x&&(single y&&single z))))),none):=by
 have h1:=fun m=>ic m x
 have h2:=fun m=>ic m y
 have h3:=fun m=>ic m z
 have w1:ak .i64 1=1:=wrap_i64 (by omega);have w2:ak .i64 2=2:=wrap_i64 (by omega);have w3:ak .i64 3=3:=wrap_i64 (by omega);have hi:∃ v:Int,(decide (0<=v) = !(single x&&(single y&&single z)))/\∀ m,CL E0 (m+200) 100 [.d (.s 1 (LK .i64 [x,y,z])),.d (.fn 69)] []=some (.d (.v (.int .i64 v)),none):=by
  cases hx:single x
  ·refine⟨0,rfl,fun m => ?_⟩;rw[hx]at h1;rw[aA rfl (k100:E0.fn _=_) rfl];simp only[LK,List.map_cons,List.map_nil];simp -implicitDefEqProofs[f100,aG,h1]
  ·cases hy:single y
   ·refine⟨1,rfl,fun m => ?_⟩;rw[hx]at h1;rw[hy]at h2;rw[aA rfl (k100:E0.fn _=_) rfl];simp only[LK,List.map_cons,List.map_nil];simp -implicitDefEqProofs[f100,aG,w1,h1,h2]
   ·cases hz:single z
    ·refine⟨2,rfl,fun m => ?_⟩;rw[hx]at h1;rw[hy]at h2;rw[hz]at h3;rw[aA rfl (k100:E0.fn _=_) rfl];simp only[LK,List.map_cons,List.map_nil];simp -implicitDefEqProofs[f100,aG,w1,w2,h1,h2,h3]
    ·refine⟨-1,rfl,fun m => ?_⟩;rw[hx]at h1;rw[hy]at h2;rw[hz]at h3;rw[aA rfl (k100:E0.fn _=_) rfl];simp only[LK,List.map_cons,List.map_nil];simp -implicitDefEqProofs[f100,aG,w1,w2,w3,h1,h2,h3]
 obtain⟨v,hv,hi⟩:=hi;rw[aA rfl (k68:E0.fn _=_) rfl];rw[<-hv];generalize LK .i64 [x,y,z]=l at*;simp -implicitDefEqProofs[f68,hi]
theorem nD (n:Nat)(k:Int)(ps:List Int):CL E0 (n+500) 31 [.d (bG k ps)] []=some (.d (.v (.bool (aQ k ps))),none):=by
 have hs:=fun m=>zA m k
 rw[aA rfl (k31:E0.fn _=_) rfl];unfold aQ bG
 by_cases hk:k=6
 ·subst hk;rw[if_neg (by simp)]
  match ps with
  | []=>simp -implicitDefEqProofs[f31,LK]
  | [x]=>simp -implicitDefEqProofs[f31,LK]
  | [x,y] =>
   have h:=fun m=>Bz m x y
   simp only[LK,List.map_cons,List.map_nil]at h;simp -implicitDefEqProofs[f31,LK,h]
  | [x,y,z] =>
   have h:=fun m=>BA m x y z
   simp only[LK,List.map_cons,List.map_nil]at h;simp -implicitDefEqProofs[f31,LK,h]
  | x::y::z::w::r =>
   have h2:(2:Int)<=(r.length:Int)+1+1+1+1:=by omega
   have h3:¬ (r.length:Int)+1+1+1+1<=3:=by omega
   simp -implicitDefEqProofs[f31,LK,h2,h3]
 ·rw[if_pos hk];have hne:(k != 6)=true:=by simpa using hk
  cases hb:single k
  ·rw[hb]at hs;generalize LK .i64 ps=l at*;simp -implicitDefEqProofs[f31,hne,hs]
  ·rw[hb]at hs;cases ps with
   | nil=>simp -implicitDefEqProofs[f31,LK,hne,hs]
   | cons x r =>
    have h0:(((r.length:Int)+1)==0)=false:=by simp;omega
    simp -implicitDefEqProofs[f31,LK,hne,hs,h0]
theorem iU (x:Int):(single x=true/\¬ x<1/\¬ 5<x)\/(single x=false/\x<1)\/(single x=false/\¬ x<1/\5<x):=by
 unfold single
 by_cases h1:x<1
 ·have:¬ 1<=x:=by omega
  simp[this,h1]
 ·by_cases h2:5<x
  ·have:¬ x<=5:=by omega
   simp[this,h1,h2]
  ·have a1:1<=x:=by omega
   have a2:x<=5:=by omega
   simp[a1,a2]
theorem iK (n:Nat)(k:Int)(ps:List Int):CL E0 (n+500) 28 [.d (bG k ps)] []=some (.d (.v (.bool (aQ k ps))),none):=by
 rw[aA rfl (k28:E0.fn _=_) rfl];have w1:ak .i64 1=1:=wrap_i64 (by omega);have w2:ak .i64 2=2:=wrap_i64 (by omega);have w3:ak .i64 3=3:=wrap_i64 (by omega);unfold aQ bG
 by_cases hk:k=6
 ·subst hk;rw[if_neg (by simp)]
  match ps with
  | []=>simp -implicitDefEqProofs[f28,LK]
  | [x]=>simp -implicitDefEqProofs[f28,LK]
  | [x,y] =>
   rcases iU x with ⟨a,a1,a2⟩|⟨a,a1⟩|⟨a,a1,a2⟩
   ·rcases iU y with ⟨b,b1,b2⟩|⟨b,b1⟩|⟨b,b1,b2⟩
    ·simp -implicitDefEqProofs[f28,aG,LK,w1,w2,a,a1,a2,b,b1,b2]
    ·simp -implicitDefEqProofs[f28,aG,LK,w1,a,a1,a2,b,b1]
    ·simp -implicitDefEqProofs[f28,aG,LK,w1,a,a1,a2,b,b1,b2]
   ·simp -implicitDefEqProofs[f28,aG,LK,a,a1]
   ·simp -implicitDefEqProofs[f28,aG,LK,a,a1,a2]
  | [x,y,z] =>
   rcases iU x with ⟨a,a1,a2⟩|⟨a,a1⟩|⟨a,a1,a2⟩
   ·rcases iU y with ⟨b,b1,b2⟩|⟨b,b1⟩|⟨b,b1,b2⟩
    ·rcases iU z with ⟨c,c1,c2⟩|⟨c,c1⟩|⟨c,c1,c2⟩
     ·simp -implicitDefEqProofs[f28,aG,LK,w1,w2,w3,a,a1,a2,b,b1,b2,c,c1,c2]
     ·simp -implicitDefEqProofs[f28,aG,LK,w1,w2,a,a1,a2,b,b1,b2,c,c1]
     ·simp -implicitDefEqProofs[f28,aG,LK,w1,w2,a,a1,a2,b,b1,b2,c,c1,c2]
    ·simp -implicitDefEqProofs[f28,aG,LK,w1,a,a1,a2,b,b1]
    ·simp -implicitDefEqProofs[f28,aG,LK,w1,a,a1,a2,b,b1,b2]
   ·simp -implicitDefEqProofs[f28,aG,LK,a,a1]
   ·simp -implicitDefEqProofs[f28,aG,LK,a,a1,a2]
  | x::y::z::w::r =>
   have h2:¬ (r.length:Int)+1+1+1+1<2:=by omega
   have h3:(3:Int)<(r.length:Int)+1+1+1+1:=by omega
   simp -implicitDefEqProofs[f28,LK,h2,h3]
 ·rw[if_pos hk];have hne:(k != 6)=true:=by simpa using hk
  unfold single
  by_cases b1:1<=k
  ·by_cases b2:k<=5
   ·cases ps with
    | nil=>simp -implicitDefEqProofs[f28,LK,hne,b1,b2]
    | cons x r =>
     have h0:(((r.length:Int)+1)==0)=false:=by simp;omega
     simp -implicitDefEqProofs[f28,LK,hne,b1,b2,h0]
   ·generalize LK .i64 ps=l at*;simp -implicitDefEqProofs[f28,hne,b1,b2]
  ·generalize LK .i64 ps=l at*;simp -implicitDefEqProofs[f28,hne,b1]
def eG (k:Int)(ps:List Int)(k':Int)(ps':List Int):Bool:=k==k'&&decide (ps=ps')
def Ym:aD:=f33.body.r.r.l.r.bl.lp
def Tg (k k':Int)(ps ps':List Int)(i:Nat)(t:FV):St:=(st0 [.u,.u,.r (.loc 0) 0,.r (.loc 1) 0,.u,.d (.v (.int .i64 i)),.u,t,.u] [.box [.d (.v (.int .i64 k)),.d (.s 1 (LK .i64 ps))],.box [.d (.v (.int .i64 k')),.d (.s 1 (LK .i64 ps'))]])
def wrF (k k':Int)(ps ps':List Int):St:=(st0 [.u,.u,.u,.u,.d (.v (.bool false)),.u,.u,.u,.u] [.box [.d (.v (.int .i64 k)),.d (.s 1 (LK .i64 ps))],.box [.d (.v (.int .i64 k')),.d (.s 1 (LK .i64 ps'))]])
theorem PR (k k':Int)(ps ps':List Int)(i:Nat)(x y:Int)(la:ps.length<=1000000000)(hx:ps[i]?=some x)(hy:ps'[i]?=some y) :
  EX E0 90 Ym (Tg k k' ps ps' i .u)=if x=y then some (.norm,Tg k k' ps ps' (i+1) .u) else some (.ret,wrF k k' ps ps'):=by
 have hi:=(aT hx)
 have hi2:=(aT hy)
 have n1:(LK .i64 ps).length=ps.length:=by simp[LK]
 have n2:(LK .i64 ps').length=ps'.length:=by simp[LK]
 have hx':(LK .i64 ps)[i]?=some (.v (.int .i64 x)):=by simp[LK,hx]
 have hy':(LK .i64 ps')[i]?=some (.v (.int .i64 y)):=by simp[LK,hy]
 have aR:ak .i64 ((i:Int)+1)=(i:Int)+1:=wrap_i64 (by omega);have hk1:((i+1:Nat):Int)=(i:Int)+1:=by omega
 have hk0:(0:Int)<=(i:Int):=by omega
 unfold Tg wrF;rw[hk1];generalize LK .i64 ps=l1 at*;generalize LK .i64 ps'=l2 at*;have i1:=idx hx';have i2:=idx hy'
 by_cases h:x=y
 ·subst h;simp -implicitDefEqProofs[Ym,f33,n1,n2,hi,hi2,hk0,hx',hy',i1,i2,aR]
 ·have hne:(x != y)=true:=by simpa using h
  rw[if_neg h];simp -implicitDefEqProofs[Ym,f33,n1,n2,hi,hi2,hk0,hx',hy',i1,i2,hne]
theorem UF (k k':Int)(a b:List Int)(la:a.length<=1000000000)(hl:a.length=b.length) :
  ∃ r,Ex E0 (.loop Ym) (Tg k k' a b 0 .u) r/\((a=b/\r=(.exit 0,Tg k k' a b a.length (.d (.v (.bool false)))))\/(a≠b/\r=(.ret,wrF k k' a b))):=by
 refine Ex.inv (S:=fun i:Nat=>Tg k k' a b i .u) (fun i=>a.length-i) (fun i=>i<=a.length/\a.take i=b.take i) _ ?_ 0 ⟨by omega,by simp⟩;rintro i ⟨h1,h2⟩
 by_cases hk:i<a.length
 ·have hx:a[i]?=some (a[i]'hk):=List.getElem?_eq_getElem hk;have hy:b[i]?=some (b[i]'(by omega)):=List.getElem?_eq_getElem (by omega);have hr:=PR k k' a b i _ _ la hx hy
  by_cases h:a[i]'hk=b[i]'(by omega)
  ·rw[if_pos h]at hr;refine .inl ⟨i+1,Ex.of hr,by omega,by omega,?_⟩;rw[List.take_succ_eq_append_getElem hk,List.take_succ_eq_append_getElem (by omega),h2,h]
  ·rw[if_neg h]at hr;refine .inr ⟨_,Ex.of hr,by simp,.inr ⟨?_,rfl⟩⟩;intro he;subst he;exact h rfl
 ·have he:i=a.length:=by omega
  subst he;have n1:(LK .i64 a).length=a.length:=by simp[LK]
  rw[List.take_length,hl,List.take_length]at h2;refine .inr ⟨_,Ex.of (n:=60) ?_,?_,.inl ⟨h2,rfl⟩⟩
  ·unfold Tg;generalize LK .i64 a=l1,LK .i64 b=l2,a.length=m at*;simp -implicitDefEqProofs[Ym,f33,n1]
  ·simp
theorem L6 (k k':Int)(ps ps':List Int)(h1:ps.length<=1000000000)(h2:ps'.length<=1000000000):Ca E0 33 [.d (bG k ps),.d (bG k' ps')] (.d (.v (.bool (eG k ps k' ps'))),none):=by
 have n1:(LK .i64 ps).length=ps.length:=by simp[LK]
 have n2:(LK .i64 ps').length=ps'.length:=by simp[LK]
 by_cases hk:k=k'
 ·subst hk;have e0:(k != k)=false:=by simp
  by_cases hl:ps.length=ps'.length
  ·obtain⟨r,hr,h⟩:=UF k k ps ps' h1 hl;have IU:(LK .i64 ps').length=ps.length:=by omega
   have hA:Ex E0 f33.body.l (st0 [.d (bG k ps),.d (bG k ps'),.u,.u,.u,.u,.u,.u,.u] []) (.norm,(st0 [.u,.u,.r (.loc 0) 0,.r (.loc 1) 0,.u,.u,.u,.u,.u] [.box [.d (.v (.int .i64 k)),.d (.s 1 (LK .i64 ps))],.box [.d (.v (.int .i64 k)),.d (.s 1 (LK .i64 ps'))]])):=by
    refine Ex.of (n:=40) ?_;unfold bG;generalize LK .i64 ps=l1 at*;generalize LK .i64 ps'=l2 at*;simp -implicitDefEqProofs[f33]
   have hB:Ex E0 f33.body.r.l (st0 [.u,.u,.r (.loc 0) 0,.r (.loc 1) 0,.u,.u,.u,.u,.u] [.box [.d (.v (.int .i64 k)),.d (.s 1 (LK .i64 ps))],.box [.d (.v (.int .i64 k)),.d (.s 1 (LK .i64 ps'))]]) (.norm,(st0 [.u,.u,.r (.loc 0) 0,.r (.loc 1) 0,.u,.u,.d (.v (.bool false)),.u,.u] [.box [.d (.v (.int .i64 k)),.d (.s 1 (LK .i64 ps))],.box [.d (.v (.int .i64 k)),.d (.s 1 (LK .i64 ps'))]])):=by
    refine Ex.of (n:=60) ?_;generalize LK .i64 ps=l1 at*;generalize LK .i64 ps'=l2,ps.length=m at*;simp -implicitDefEqProofs[f33,n1,IU,e0]
   have hC:Ex E0 f33.body.r.r.l.l (st0 [.u,.u,.r (.loc 0) 0,.r (.loc 1) 0,.u,.u,.d (.v (.bool false)),.u,.u] [.box [.d (.v (.int .i64 k)),.d (.s 1 (LK .i64 ps))],.box [.d (.v (.int .i64 k)),.d (.s 1 (LK .i64 ps'))]]) (.norm,Tg k k ps ps' 0 .u):=by
    refine Ex.of (n:=40) ?_;unfold Tg;generalize LK .i64 ps=l1 at*;generalize LK .i64 ps'=l2 at*;simp -implicitDefEqProofs[f33]
   rcases h with ⟨he,rfl⟩|⟨he,rfl⟩
   ·have hv:eG k ps k ps'=true:=by simp[eG,he]
    rw[hv];refine Ca.body (o:=.ret) (st1:=(st0 [.u,.u,.u,.u,.d (.v (.bool true)),.u,.u,.u,.u] [.box [.d (.v (.int .i64 k)),.d (.s 1 (LK .i64 ps))],.box [.d (.v (.int .i64 k)),.d (.s 1 (LK .i64 ps'))]])) rfl (k33:E0.fn _=_) rfl ?_ (by intro id h;cases h) ?_
    ·show Ex E0 (.seq f33.body.l (.seq f33.body.r.l (.seq (.seq f33.body.r.r.l.l (.block 0 (.loop Ym))) f33.body.r.r.r))) _ _;refine hA.seq (hB.seq ((hC.seq hr.block).seq (Ex.of (n:=40) ?_)));unfold Tg;generalize LK .i64 ps=l1 at*;generalize LK .i64 ps'=l2 at*;simp -implicitDefEqProofs[f33]
    ·simp -implicitDefEqProofs[f33]
   ·have hv:eG k ps k ps'=false:=by simp[eG,he]
    rw[hv];refine Ca.body (o:=.ret) (st1:=wrF k k ps ps') rfl (k33:E0.fn _=_) rfl ?_ (by intro id h;cases h) ?_
    ·show Ex E0 (.seq f33.body.l (.seq f33.body.r.l (.seq (.seq f33.body.r.r.l.l (.block 0 (.loop Ym))) f33.body.r.r.r))) _ _;exact hA.seq (hB.seq (hC.seq hr.bf).bD)
    ·simp -implicitDefEqProofs[f33,wrF]
  ·have hv:eG k ps k ps'=false:=by
    have:¬ ps=ps':=fun h=>hl (by rw[h])
    simp[eG,this]
   have hne:((ps.length:Int) != (ps'.length:Int))=true:=bne_iff_ne.2 (by omega);rw[hv];refine Ca.bO (n:=90) ?_;rw[aA rfl (k33:E0.fn _=_) rfl];unfold bG;generalize LK .i64 ps=l1 at*;generalize LK .i64 ps'=l2 at*;simp -implicitDefEqProofs[f33,n1,n2,hne]
 ·have hv:eG k ps k' ps'=false:=by simp[eG,hk]
  have hne:(k != k')=true:=by simpa using hk
  rw[hv];refine Ca.bO (n:=90) ?_;rw[aA rfl (k33:E0.fn _=_) rfl];unfold bG;generalize LK .i64 ps=l1 at*;generalize LK .i64 ps'=l2 at*;simp -implicitDefEqProofs[f33,hne]
def q0 (s:Bool)(a b:List Nat):Bool := !s&&decide (a=[])&&decide (b=[])
def dJ (k:Int):W->Bool
 | .mk s a b c i u p ps =>
  if k=1 then df s a b&&((c==0) && !i&&(u==0)&&p.isEmpty&&ps.isEmpty)
  else if k=2 then(decide (0<=c)&&decide (c<=1099511627776)&&(!i||(c==0)))&&(q0 s a b&&(u==0)&&p.isEmpty&&ps.isEmpty)
  else if k=3 then(df s a b&&((c==0) && !i&&(u==0)&&p.isEmpty&&ps.isEmpty))&&decide (0<=(bJ s a b).num.sign) && !decide ((1:Rat)<bJ s a b)
  else if k=4 then q0 s a b&&(c==0) && !i&&p.isEmpty&&ps.isEmpty
  else ui none p&&(q0 s a b&&(c==0) && !i&&(u==0)&&ps.isEmpty)
theorem yE {α:Type}(eq:α->α->Bool)(l:List α):iB eq l []=l.isEmpty:=by cases l<;>rfl
theorem yF (l:List W):W.eqs l []=l.isEmpty:=by cases l<;>rfl
theorem zB {α:Type}{eq:α->α->Bool}(h:∀ x,eq x x=true):∀ l:List α,iB eq l l=true
 | []=>rfl
 | x::r=>by simp[iB,h x,zB h r]
theorem Cj (m:Mo):m.eq m=true:=by simp[Mo.eq]
theorem uB (s:Bool)(a b:List Nat):(s==false&&decide (a=[])&&decide (b=[]))=q0 s a b:=by cases s<;>rfl
theorem yG (s:Bool)(a b:List Nat)(c:Int)(i:Bool)(u:Int)(p:List Mo)(ha:bK a)(hb:bK b)(la:a.length<=1000)(lb:b.length<=1000)(hp:Po p):(W.mk s a b c i u p []).OK :=
 .mk ha hb la lb hp (by simp) (fun w hw=>by cases hw)
theorem jP:bK []:=fun x hx=>by cases hx
theorem zC:Po []:=⟨(fun m hm=>by cases hm),by simp⟩
theorem Kj (w:W)(hw:w.OK):Ca E0 108 [.d w.d] (.d (.v (.bool (dJ 1 w))),none):=by
 cases hw with
 | @mk s a b c i u p ps ha hb la lb hp lp h =>
  obtain⟨Kq,_,t1,t2⟩:=((vW s a b (by omega) (by omega) ha hb).j ((iT _ (.mk (c:=c) (i:=i) (u:=u) (s:=s) ha hb la lb hp lp h) _ (yG s a b 0 false 0 [] ha hb la lb zC)).any)).at 0;generalize Kq=N at*;have e:W.eq (.mk s a b c i u p ps) (.mk s a b 0 false 0 [] [])=((c==0) && !i&&(u==0)&&p.isEmpty&&ps.isEmpty):=by
   simp only[W.eq,yE,yF];cases i<;>simp
  rw[e]at t2;refine Ca.bO (n:=N+90) ?_;rw[aA rfl (k108:E0.fn _=_) rfl];rw[dJ];rw[if_pos rfl];generalize ((c==0) && !i&&(u==0)&&p.isEmpty&&ps.isEmpty)=r2,df s a b=r1 at*;simp only[W.d,W.ds,PD,raw,LD]at*;generalize LL a=x1,LL b=x2,W.ds ps=x4 at*;simp only[List.map_nil]at*;generalize List.map Mo.d p=x3 at*;cases r1
  ·simp -implicitDefEqProofs[f108,t1]
  ·simp -implicitDefEqProofs[f108,t1,t2]
theorem UG (w:W)(hw:w.OK):Ca E0 122 [.d w.d] (.d (.v (.bool (dJ 2 w))),none):=by
 cases hw with
 | @mk s a b c i u p ps ha hb la lb hp lp h =>
  obtain⟨N,t2⟩:=(iT _ (.mk (c:=c) (i:=i) (u:=u) (s:=s) ha hb la lb hp lp h) _ (yG false [] [] c i 0 [] jP jP (by simp) (by simp) zC)).get;have e:W.eq (.mk s a b c i u p ps) (.mk false [] [] c i 0 [] [])=(q0 s a b&&(u==0)&&p.isEmpty&&ps.isEmpty):=by
   simp only[W.eq,yE,yF,uB];simp
  rw[e]at t2;refine Ca.bO (n:=N+90) ?_;rw[aA rfl (k122:E0.fn _=_) rfl];rw[dJ];rw[if_neg (by omega),if_pos rfl];generalize (q0 s a b&&(u==0)&&p.isEmpty&&ps.isEmpty)=r2 at*;simp only[W.d,W.ds,PD,LD]at*;generalize LL a=x1,LL b=x2,W.ds ps=x4 at*;simp only[List.map_nil,LL]at*;generalize List.map Mo.d p=x3 at*
  by_cases h1:0<=c
  ·by_cases h2:c<=1099511627776
   ·cases i
    ·simp -implicitDefEqProofs[f122,t2,h1,h2]
    ·cases h3:(c==0)
     ·simp -implicitDefEqProofs[f122,t2,h1,h2,h3]
     ·simp -implicitDefEqProofs[f122,t2,h1,h2,h3]
   ·simp -implicitDefEqProofs[f122,h1,h2]
  ·simp -implicitDefEqProofs[f122,h1]
theorem UH (w:W)(hw:w.OK):Ca E0 139 [.d w.d] (.d (.v (.bool (dJ 4 w))),none):=by
 cases hw with
 | @mk s a b c i u p ps ha hb la lb hp lp h =>
  obtain⟨N,t2⟩:=(iT _ (.mk (c:=c) (i:=i) (u:=u) (s:=s) ha hb la lb hp lp h) _ (yG false [] [] 0 false u [] jP jP (by simp) (by simp) zC)).get;have e:W.eq (.mk s a b c i u p ps) (.mk false [] [] 0 false u [] [])=(q0 s a b&&(c==0) && !i&&p.isEmpty&&ps.isEmpty):=by
   simp only[W.eq,yE,yF,uB];cases i<;>simp
  rw[e]at t2;refine Ca.bO (n:=N+90) ?_;rw[aA rfl (k139:E0.fn _=_) rfl];rw[dJ];rw[if_neg (by omega),if_neg (by omega),if_neg (by omega),if_pos rfl];generalize (q0 s a b&&(c==0) && !i&&p.isEmpty&&ps.isEmpty)=r2 at*;simp only[W.d,W.ds,PD,LD]at*;generalize LL a=x1,LL b=x2,W.ds ps=x4 at*;simp only[List.map_nil,LL]at*;generalize List.map Mo.d p=x3 at*;simp -implicitDefEqProofs[f139,t2]
theorem UI (w:W)(hw:w.OK):Ca E0 149 [.d w.d] (.d (.v (.bool (dJ 5 w))),none):=by
 cases hw with
 | @mk s a b c i u p ps ha hb la lb hp lp h =>
  obtain⟨Kq,_,t1,t2⟩:=((Cg p hp).j ((iT _ (.mk (c:=c) (i:=i) (u:=u) (s:=s) ha hb la lb hp lp h) _ (yG false [] [] 0 false 0 p jP jP (by simp) (by simp) hp)).any)).at 0;generalize Kq=N at*;have e:W.eq (.mk s a b c i u p ps) (.mk false [] [] 0 false 0 p [])=(q0 s a b&&(c==0) && !i&&(u==0)&&ps.isEmpty):=by
   simp only[W.eq,zB Cj,yF,uB];cases i<;>simp
  rw[e]at t2;refine Ca.bO (n:=N+90) ?_;rw[aA rfl (k149:E0.fn _=_) rfl];rw[dJ];rw[if_neg (by omega),if_neg (by omega),if_neg (by omega),if_neg (by omega)];generalize (q0 s a b&&(c==0) && !i&&(u==0)&&ps.isEmpty)=r2,ui none p=r1 at*;simp only[W.d,W.ds,PD,LD]at*;generalize LL a=x1,LL b=x2,W.ds ps=x4 at*;simp only[List.map_nil,LL]at*;generalize List.map Mo.d p=x3 at*;cases r1
  ·simp -implicitDefEqProofs[f149,t1]
  ·simp -implicitDefEqProofs[f149,t1,t2]
def BB:D:=.a [(.fn 108),(.fn 110),(.fn 111),(.fn 113),(.fn 115),(.fn 117),(.fn 118),(.fn 119),(.fn 121)]
theorem Yn (n:Nat):CL E0 (n+40) 79 [] []=some (.d BB,none):=by
 rw[aA rfl (k79:E0.fn _=_) rfl];unfold BB;simp -implicitDefEqProofs[f79]
theorem D5:qD (1:Rat)=raw false [1] []:=by
 have h1:qs (1:Rat)=false:=by unfold qs;rfl
 have h2:qn (1:Rat)=[1]:=by
  have:(1:Rat).num.natAbs=1:=rfl;unfold qn;rw[this];exact yC.2 rfl
 have h3:qd (1:Rat)=[]:=by
  have:(1:Rat).den=1:=rfl;unfold qd;rw[if_pos this]
 rw[qD,h1,h2,h3]
theorem Kk:FH 1 1=1:=by rw[Ya _ _ (by omega)];simp;grind
def Yo:D:=.a [.v (.bool false),.s 1 [.v (.int .u32 1)],.s 1 [],.v (.int .i64 0),.v (.bool false),.v (.int .u64 0),.s 6 [],.s 8 []]
theorem IV:Ca E0 112 [.d (.v (.int .i64 1))] (.d Yo,none):=by
 obtain⟨N,t⟩:=(Um 1 1 (by omega) (by omega) (by omega)).get;rw[Kk,D5]at t;refine Ca.bO (n:=N+80) ?_;rw[aA rfl (k112:E0.fn _=_) rfl];unfold Yo;simp only[raw,LD,LL,List.map_cons,List.map_nil,Int.natCast_one]at t;simp -implicitDefEqProofs[f112,mF,t]
theorem PS:qz (1:Rat)<=1:=by
 have h1:(1:Rat).num.natAbs=1:=rfl;have h2:(1:Rat).den=1:=rfl;unfold qz;rw[h1,h2,Iu];omega
theorem UJ (w:W)(hw:w.OK):Ca E0 133 [.d w.d] (.d (.v (.bool (dJ 3 w))),none):=by
 have hc1:=Kj w hw;cases hw with
 | @mk s a b c i u p ps ha hb la lb hp lp h =>
  rw[dJ,if_pos rfl]at hc1;rw[dJ,if_neg (by omega),if_neg (by omega),if_pos rfl];have a79:=Yn;obtain⟨n1,t1⟩:=hc1.any;cases hv:df s a b
  ·rw[hv]at t1;simp only[Bool.false_and]at t1 ⊢;replace t1:=t1 n1 (by omega);refine Ca.bO (n:=n1+90) ?_;rw[aA rfl (k133:E0.fn _=_) rfl];simp only[W.d,W.ds,PD,raw,LD,BB]at*;generalize LL a=x1,LL b=x2,W.ds ps=x4,List.map Mo.d p=x3 at*;simp -implicitDefEqProofs[f133,a79,t1]
  ·rw[hv]at t1;simp only[Bool.true_and]at t1 ⊢;have hq:=mO ha hb hv;have hz:=kZ ha hb 1000 la lb (by omega) hv;obtain⟨n2,t2⟩:=(uq (bJ s a b) (by omega)).any;obtain⟨n3,t3⟩:=(xn (bJ s a b) 1 (by omega) (by have:=PS;omega)).any;obtain⟨n4,t4⟩:=IV.any;rw[D5]at t3;rw[<-hq]at t2 t3;have e3:(!decide ((1:Rat)<bJ s a b))=decide ((bJ s a b-1).num.sign<=0):=by
    have:=(FR (bJ s a b) 1).2;rw[<-decide_not]
    congr 1
    rw[<-this];simp only[Int.not_lt]
   rw[e3];clear e3 hq hz;generalize (bJ s a b-1).num.sign=g2,(bJ s a b).num.sign=g1,((c==0) && !i&&(u==0)&&p.isEmpty&&ps.isEmpty)=r2 at*;replace t1:=t1 (n1+n2+n3+n4) (by omega);replace t2:=t2 (n1+n2+n3+n4) (by omega);replace t3:=t3 (n1+n2+n3+n4) (by omega);replace t4:=t4 (n1+n2+n3+n4) (by omega);generalize n1+n2+n3+n4=N at*;refine Ca.bO (n:=N+90) ?_;rw[aA rfl (k133:E0.fn _=_) rfl];simp only[W.d,W.ds,PD,raw,LD,BB,Yo]at*;simp only[LL,List.map_cons,List.map_nil,Int.natCast_one]at t3;simp only[<-show ∀ l:List Nat,LL l=List.map (fun(x:Nat)=>D.v (Value.int IntKind.u32 (x:Int))) l from fun _=>rfl]at t3;generalize LL a=x1,LL b=x2,W.ds ps=x4,List.map Mo.d p=x3 at*;cases r2
   ·simp -implicitDefEqProofs[f133,a79,t1]
   ·by_cases h1:0<=g1
    ·by_cases h2:g2<=0
     ·simp -implicitDefEqProofs[f133,a79,t1,t2,t3,t4,h1,h2]
     ·simp -implicitDefEqProofs[f133,a79,t1,t2,t3,t4,h1,h2]
    ·simp -implicitDefEqProofs[f133,a79,t1,t2,h1]
theorem mQ (ps:List W):(ps.isEmpty=true/\(W.ds ps).length=0)\/(ps.isEmpty=false/\∃ m,(W.ds ps).length=m+1):=by
 cases ps with
 | nil=>exact .inl ⟨rfl,rfl⟩
 | cons x r=>exact .inr ⟨rfl,(W.ds r).length,by simp[W.ds]⟩
theorem pF (p:List Mo):(p.isEmpty=true/\(p.map Mo.d).length=0)\/(p.isEmpty=false/\∃ m,(p.map Mo.d).length=m+1):=by
 cases p with
 | nil=>exact .inl ⟨rfl,rfl⟩
 | cons x r=>exact .inr ⟨rfl,r.length,by simp⟩
theorem IW (w:W)(hw:w.OK):Ca E0 66 [.d (.v (.int .i64 1)),.d w.d] (.d (.v (.bool (dJ 1 w))),none):=by
 cases hw with
 | @mk s a b c i u p ps ha hb la lb hp lp h =>
  have hps:=mQ ps;have hpo:=pF p;obtain⟨n1,t1⟩:=(ll s false a b [] [] (by omega) (by omega) (by simp) (by simp)).any;rw[uB]at t1;rw[dJ,if_pos rfl];obtain⟨n2,t2⟩:=(qP s a b (by omega) (by omega) ha hb).any;replace t1:=t1 (n1+n2) (by omega);replace t2:=t2 (n1+n2) (by omega);generalize n1+n2=N at*;refine Ca.bO (n:=N+90) ?_;rw[aA rfl (k66:E0.fn _=_) rfl];generalize df s a b=r2,q0 s a b=nn at*;simp only[W.d,PD,raw,LD]at*;generalize LL a=x1,LL b=x2,W.ds ps=x4,List.map Mo.d p=x3,ps.isEmpty=be,p.isEmpty=bp at*;simp only[LL,List.map_nil]at t1;have e1:(c != 0) = !(c==0):=rfl;have e2:(u != 0) = !(u==0):=rfl;rcases hps with ⟨rfl,hps⟩|⟨rfl,m,hps⟩
  ·skip
   cases i
   ·cases h3:(c==0)
    ·rw[h3]at e1;simp -implicitDefEqProofs[f66,t1,hps,e1]
    ·rw[h3]at e1;cases h4:(u==0)
     ·rw[h4]at e2;simp -implicitDefEqProofs[f66,t1,hps,e1,e2]
     ·rw[h4]at e2;rcases hpo with ⟨rfl,hpo⟩|⟨rfl,m,hpo⟩
      ·skip
       simp -implicitDefEqProofs[f66,t1,hps,e1,e2,hpo,t2]
      ·simp -implicitDefEqProofs[f66,t1,hps,e1,e2,hpo]
   ·simp -implicitDefEqProofs[f66,t1,hps]
  ·simp -implicitDefEqProofs[f66,t1,hps]
theorem IX (w:W)(hw:w.OK):Ca E0 66 [.d (.v (.int .i64 2)),.d w.d] (.d (.v (.bool (dJ 2 w))),none):=by
 cases hw with
 | @mk s a b c i u p ps ha hb la lb hp lp h =>
  have hps:=mQ ps;have hpo:=pF p;obtain⟨n1,t1⟩:=(ll s false a b [] [] (by omega) (by omega) (by simp) (by simp)).any;rw[uB]at t1;rw[dJ,if_neg (by omega),if_pos rfl];replace t1:=t1 (n1) (by omega);replace t1:=t1;refine Ca.bO (n:=n1+90) ?_;rw[aA rfl (k66:E0.fn _=_) rfl];generalize q0 s a b=nn at*;simp only[W.d,PD,raw,LD]at*;generalize LL a=x1,LL b=x2,W.ds ps=x4,List.map Mo.d p=x3,ps.isEmpty=be,p.isEmpty=bp at*;simp only[LL,List.map_nil]at t1;have e1:(c != 0) = !(c==0):=rfl;have e2:(u != 0) = !(u==0):=rfl;rcases hps with ⟨rfl,hps⟩|⟨rfl,m,hps⟩
  ·skip
   cases nn
   ·simp -implicitDefEqProofs[f66,t1,hps]
   ·skip
    cases h4:(u==0)
    ·rw[h4]at e2;simp -implicitDefEqProofs[f66,t1,hps,e2]
    ·rw[h4]at e2;rcases hpo with ⟨rfl,hpo⟩|⟨rfl,m,hpo⟩
     ·skip
      by_cases h1:0<=c
      ·by_cases h2:c<=1099511627776
       ·cases i
        ·simp -implicitDefEqProofs[f66,t1,hps,e2,hpo,h1,h2]
        ·cases h3:(c==0)
         ·rw[h3]at e1;simp -implicitDefEqProofs[f66,t1,hps,e2,hpo,h1,h2,e1]
         ·rw[h3]at e1;simp -implicitDefEqProofs[f66,t1,hps,e2,hpo,h1,h2,e1]
       ·simp -implicitDefEqProofs[f66,t1,hps,e2,hpo,h1,h2]
      ·simp -implicitDefEqProofs[f66,t1,hps,e2,hpo,h1]
     ·simp -implicitDefEqProofs[f66,t1,hps,e2,hpo]
  ·simp -implicitDefEqProofs[f66,t1,hps]
theorem IY (w:W)(hw:w.OK):Ca E0 66 [.d (.v (.int .i64 4)),.d w.d] (.d (.v (.bool (dJ 4 w))),none):=by
 cases hw with
 | @mk s a b c i u p ps ha hb la lb hp lp h =>
  have hps:=mQ ps;have hpo:=pF p;obtain⟨n1,t1⟩:=(ll s false a b [] [] (by omega) (by omega) (by simp) (by simp)).any;rw[uB]at t1;rw[dJ,if_neg (by omega),if_neg (by omega),if_neg (by omega),if_pos rfl];replace t1:=t1 (n1) (by omega);replace t1:=t1;refine Ca.bO (n:=n1+90) ?_;rw[aA rfl (k66:E0.fn _=_) rfl];generalize q0 s a b=nn at*;simp only[W.d,PD,raw,LD]at*;generalize LL a=x1,LL b=x2,W.ds ps=x4,List.map Mo.d p=x3,ps.isEmpty=be,p.isEmpty=bp at*;simp only[LL,List.map_nil]at t1;have e1:(c != 0) = !(c==0):=rfl;have e2:(u != 0) = !(u==0):=rfl;rcases hps with ⟨rfl,hps⟩|⟨rfl,m,hps⟩
  ·skip
   cases nn
   ·simp -implicitDefEqProofs[f66,t1,hps]
   ·skip
    cases i
    ·cases h3:(c==0)
     ·rw[h3]at e1;simp -implicitDefEqProofs[f66,t1,hps,e1]
     ·rw[h3]at e1;rcases hpo with ⟨rfl,hpo⟩|⟨rfl,m,hpo⟩
      ·skip
       simp -implicitDefEqProofs[f66,t1,hps,e1,hpo]
      ·simp -implicitDefEqProofs[f66,t1,hps,e1,hpo]
    ·simp -implicitDefEqProofs[f66,t1,hps]
  ·simp -implicitDefEqProofs[f66,t1,hps]
theorem IZ (w:W)(hw:w.OK):Ca E0 66 [.d (.v (.int .i64 5)),.d w.d] (.d (.v (.bool (dJ 5 w))),none):=by
 cases hw with
 | @mk s a b c i u p ps ha hb la lb hp lp h =>
  have hps:=mQ ps;have hpo:=pF p;obtain⟨n1,t1⟩:=(ll s false a b [] [] (by omega) (by omega) (by simp) (by simp)).any;rw[uB]at t1;rw[dJ,if_neg (by omega),if_neg (by omega),if_neg (by omega),if_neg (by omega)];obtain⟨n2,t2⟩:=(Ch p hp).any;replace t1:=t1 (n1+n2) (by omega);replace t2:=t2 (n1+n2) (by omega);generalize n1+n2=N at*;refine Ca.bO (n:=N+90) ?_;rw[aA rfl (k66:E0.fn _=_) rfl];generalize ui none p=r2,q0 s a b=nn at*;simp only[W.d,PD,raw,LD]at*;generalize LL a=x1,LL b=x2,W.ds ps=x4,List.map Mo.d p=x3,ps.isEmpty=be,p.isEmpty=bp at*;simp only[LL,List.map_nil]at t1;have e1:(c != 0) = !(c==0):=rfl;have e2:(u != 0) = !(u==0):=rfl;rcases hps with ⟨rfl,hps⟩|⟨rfl,m,hps⟩
  ·skip
   cases nn
   ·simp -implicitDefEqProofs[f66,t1,hps]
   ·skip
    cases i
    ·cases h3:(c==0)
     ·rw[h3]at e1;simp -implicitDefEqProofs[f66,t1,hps,e1]
     ·rw[h3]at e1;cases h4:(u==0)
      ·rw[h4]at e2;simp -implicitDefEqProofs[f66,t1,hps,e1,e2]
      ·rw[h4]at e2;simp -implicitDefEqProofs[f66,t1,hps,e1,e2,t2]
    ·simp -implicitDefEqProofs[f66,t1,hps]
  ·simp -implicitDefEqProofs[f66,t1,hps]
theorem I6 (w:W)(hw:w.OK):Ca E0 66 [.d (.v (.int .i64 3)),.d w.d] (.d (.v (.bool (dJ 3 w))),none):=by
 cases hw with
 | @mk s a b c i u p ps ha hb la lb hp lp h =>
  have hps:=mQ ps;have hpo:=pF p;obtain⟨n1,t1⟩:=(ll s false a b [] [] (by omega) (by omega) (by simp) (by simp)).any;rw[uB]at t1;obtain⟨n2,t2⟩:=(qP s a b (by omega) (by omega) ha hb).any;rw[dJ,if_neg (by omega),if_neg (by omega),if_pos rfl];obtain⟨n3,t3⟩:=(Yj 1 1 (by omega) (by omega) (by omega)).any;rw[Kk,D5]at t3;have hx:∃ n4,df s a b=true->(∀ n,n4<=n->∀ k,CL E0 (n+k) 98 [.d (raw s a b)] []=some (.d (.v (.int .i64 (bJ s a b).num.sign)),none)) /\
    (∀ n,n4<=n->∀ k,CL E0 (n+k) 55 [.d (raw false [1] []),.d (raw s a b)] []=some (.d (.v (.bool (decide ((1:Rat)<bJ s a b)))),none)):=by
   cases hv:df s a b
   ·exact⟨0,fun h=>by cases h⟩
   ·have hq:=mO ha hb hv;have hz:=kZ ha hb 1000 la lb (by omega) hv;obtain⟨m1,s1⟩:=(lh (bJ s a b) (by omega)).any;obtain⟨m2,s2⟩:=(FT 1 (bJ s a b) (by have:=PS;omega) (by omega)).any;rw[<-hq]at s1 s2;rw[D5]at s2;exact⟨m1+m2,fun _=>⟨fun n hn k=>s1 n (by omega) k,fun n hn k=>s2 n (by omega) k⟩⟩
  obtain⟨n4,hx⟩:=hx;replace t1:=t1 (n1+n2+n3+n4) (by omega);replace t2:=t2 (n1+n2+n3+n4) (by omega);replace t3:=t3 (n1+n2+n3+n4) (by omega);have hx':df s a b=true->(∀ k,CL E0 (n1+n2+n3+n4+k) 98 [.d (raw s a b)] []=some (.d (.v (.int .i64 (bJ s a b).num.sign)),none)) /\
    (∀ k,CL E0 (n1+n2+n3+n4+k) 55 [.d (raw false [1] []),.d (raw s a b)] []=some (.d (.v (.bool (decide ((1:Rat)<bJ s a b)))),none)):=fun hv=>⟨(hx hv).1 _ (by omega),(hx hv).2 _ (by omega)⟩
  clear hx;generalize n1+n2+n3+n4=N at*;refine Ca.bO (n:=N+90) ?_;rw[aA rfl (k66:E0.fn _=_) rfl];generalize df s a b=r2,q0 s a b=nn,(bJ s a b).num.sign=g1 at*;generalize decide ((1:Rat)<bJ s a b)=g2 at*;simp only[W.d,PD,raw,LD]at*;have e11:LL [1]=[D.v (.int .u32 1)]:=rfl;have e12:LL []=[]:=rfl;simp only[e11,e12]at t1 t3 hx';generalize LL a=x1,LL b=x2,W.ds ps=x4,List.map Mo.d p=x3,ps.isEmpty=be,p.isEmpty=bp at*;have e1:(c != 0) = !(c==0):=rfl;have e2:(u != 0) = !(u==0):=rfl;rcases hps with ⟨rfl,hps⟩|⟨rfl,m,hps⟩
  ·cases i
   ·cases h3:(c==0)
    ·rw[h3]at e1;simp -implicitDefEqProofs[f66,t1,hps,e1]
    ·rw[h3]at e1;cases h4:(u==0)
     ·rw[h4]at e2;simp -implicitDefEqProofs[f66,t1,hps,e1,e2]
     ·rw[h4]at e2;rcases hpo with ⟨rfl,hpo⟩|⟨rfl,m,hpo⟩
      ·cases r2
       ·simp -implicitDefEqProofs[f66,t1,hps,e1,e2,hpo,t2]
       ·obtain⟨hx1,hx2⟩:=hx' rfl
        by_cases hg:0<=g1
        ·cases g2
         ·simp -implicitDefEqProofs[f66,t1,hps,e1,e2,hpo,t2,t3,hx1,hx2,hg]
         ·simp -implicitDefEqProofs[f66,t1,hps,e1,e2,hpo,t2,t3,hx1,hx2,hg]
        ·simp -implicitDefEqProofs[f66,t1,hps,e1,e2,hpo,t2,hx1,hg]
      ·simp -implicitDefEqProofs[f66,t1,hps,e1,e2,hpo]
   ·simp -implicitDefEqProofs[f66,t1,hps]
  ·simp -implicitDefEqProofs[f66,t1,hps]
theorem Ck (k:Int)(hk:single k=true)(w:W)(hw:w.OK):Ca E0 66 [.d (.v (.int .i64 k)),.d w.d] (.d (.v (.bool (dJ k w))),none):=by
 have:k=1\/k=2\/k=3\/k=4\/k=5:=by
  simp only[single,Bool.and_eq_true,decide_eq_true_eq]at hk;omega
 rcases this with rfl|rfl|rfl|rfl|rfl
 ·exact IW w hw
 ·exact IX w hw
 ·exact I6 w hw
 ·exact IY w hw
 ·exact IZ w hw
def pG:FV:=.d (.a [(.fn 149),(.fn 151),(.fn 152),(.fn 154),(.fn 156),(.fn 158),(.fn 118),(.fn 160),(.fn 163)])
def pI:FV:=.d BB
def nE:List FV:=[(.d (.fn 122)),(.d (.fn 123)),(.d (.fn 124)),(.d (.fn 125)),(.d (.fn 127)),(.f 195 [] [(.r (.old 3) 0)]),(.d (.fn 126)),(.d (.fn 128)),(.f 131 [] [(.r (.old 2) 0)])]
def sG:FV:=.a nE
def pJ:List ae:=[.box nE,.box nE,.box nE,.box [(.d (.fn 124))]]
def nG:List FV:=[(.d (.fn 133)),(.d (.fn 110)),(.d (.fn 111)),(.f 137 [] [(.r (.old 2) 0)]),(.d (.fn 115)),(.f 195 [] [(.r (.old 3) 0)]),(.d (.fn 136)),(.d (.fn 119)),(.f 138 [] [(.r (.old 2) 0)])]
def sH:FV:=.a nG
def pK:List ae:=[.box nG,.box nG,.box nG,.box [(.d (.fn 111))]]
def nH:List FV:=[(.d (.fn 139)),(.d (.fn 140)),(.d (.fn 141)),(.d (.fn 142)),(.d (.fn 143)),(.f 195 [] [(.r (.old 3) 0)]),(.d (.fn 118)),(.d (.fn 144)),(.f 147 [] [(.r (.old 2) 0)])]
def sK:FV:=.a nH
def pM:List ae:=[.box nH,.box nH,.box nH,.box [(.d (.fn 141))]]
theorem zD:cK E0 60 42 [.d (.v (.int .i64 1))] []=some (pI,none):=by kernel_rfl
theorem zF:cK E0 60 42 [.d (.v (.int .i64 5))] []=some (pG,none):=by kernel_rfl
theorem zG:cK E0 60 42 [.d (.v (.int .i64 2))] []=some (sG,some pJ):=by kernel_rfl
theorem zH:cK E0 60 42 [.d (.v (.int .i64 3))] []=some (sH,some pK):=by kernel_rfl
theorem zI:cK E0 60 42 [.d (.v (.int .i64 4))] []=some (sK,some pM):=by kernel_rfl
theorem rH {N g:Nat}{args:List FV}{r:FV × Option (List ae)}(h:cK E0 N g args []=some r)(m:Nat)(hm:N<=m):CL E0 m g args []=some r:=by rw[iV];exact wo h hm
def zJ (k:Int):Nat:=if k=1 then 108 else if k=2 then 122 else if k=3 then 133 else if k=4 then 139 else 149
theorem bL {k:Int}(hk:single k=true):k=1\/k=2\/k=3\/k=4\/k=5:=by
 simp only[single,Bool.and_eq_true,decide_eq_true_eq]at hk;omega
theorem PT (k:Int)(hk:single k=true)(w:W)(hw:w.OK):Ca E0 (zJ k) [.d w.d] (.d (.v (.bool (dJ k w))),none):=by
 rcases bL hk with rfl|rfl|rfl|rfl|rfl
 ·exact Kj w hw
 ·exact UG w hw
 ·exact UJ w hw
 ·exact UH w hw
 ·exact UI w hw
def W.ps:W->List W
 | .mk _ _ _ _ _ _ _ ps=>ps
def W.bare:W->Bool
 | .mk s a b c i u p _=>q0 s a b&&(c==0) && !i&&(u==0)&&p.isEmpty
def oP:List Int->List W->Bool
 | k::r,w::s=>dJ k w&&oP r s
 | _,_=>true
def bM (k:Int)(ps:List Int)(w:W):Bool:=aQ k ps&&(if k≠6 then dJ k w else(w.ps.length==ps.length)&&w.bare&&oP ps w.ps)
mutual
theorem W.D6:∀ w:W,w.eq w=true
 | .mk s a b c i u p ps=>by
  simp only[W.eq,zB Cj,W.uC ps];simp
theorem W.uC:∀ l:List W,W.eqs l l=true
 | []=>rfl
 | w::r=>by simp[W.eqs,W.D6 w,W.uC r]
end
theorem eq_bare (s:Bool)(a b:List Nat)(c:Int)(i:Bool)(u:Int)(p:List Mo)(ps:List W):W.eq (.mk s a b c i u p ps) (.mk false [] [] 0 false 0 [] ps)=W.bare (.mk s a b c i u p ps):=by
 simp only[W.eq,yE,W.uC,uB,W.bare];cases i<;>simp
theorem PU (s:Bool)(a b:List Nat)(c:Int)(i:Bool)(u:Int)(p:List Mo)(ps:List W):W.eq (.mk false [] [] 0 false 0 [] ps) (.mk s a b c i u p ps)=W.bare (.mk s a b c i u p ps):=by
 have e1:(false==s&&decide ([]=a)&&decide ([]=b))=q0 s a b:=by
  unfold q0;have h1:decide (([]:List Nat)=a)=decide (a=[]):=by congr 1;exact propext ⟨fun h=>h.symm,fun h=>h.symm⟩
  have h2:decide (([]:List Nat)=b)=decide (b=[]):=by congr 1;exact propext ⟨fun h=>h.symm,fun h=>h.symm⟩
  rw[h1,h2];cases s<;>rfl
 have e2:∀ l:List Mo,iB Mo.eq [] l=l.isEmpty:=by intro l;cases l<;>rfl
 have e3:∀ x:Int,((0:Int)==x)=(x==0):=by
  intro x
  by_cases h:x=0
  ·rw[h]
  ·rw[beq_eq_false_iff_ne.2 h,beq_eq_false_iff_ne.2 (Ne.symm h)]
 simp only[W.eq,e1,e2,e3,W.uC,W.bare];cases i<;>simp
def I7:aD:=f18.body.r.r.r.r.l.r.bl.lp
def Ti (rb:ae)(wb:List FV)(ks:List Int)(j:Nat)(bs:List ae)(t:FV):St:=(st0 [.u,.u,.u,.r (.loc 1) 0,.u,.u,.u,.u,.u,.u,.d (.s 1 (LK .i64 ks)),.d (.v (.int .i64 ks.length)),.d (.v (.int .i64 j)),t,.u] (rb::.box wb::bs))
def ckF (rb:ae)(wb:List FV)(bs:List ae):St:=(st0 [.u,.u,.u,.u,.d (.v (.bool false)),.u,.u,.u,.u,.u,.u,.u,.u,.u,.u] (rb::.box wb::bs))
theorem PW (rb:ae)(p1 p2 p3 p4 p5 p6 p7:D)(ws:List W)(ks:List Int)(j:Nat)(bs:List ae)(k:Int)(w:W)(hl:ks.length<=1000000)(hk:ks[j]?=some k)(hw:ws[j]?=some w)(hs:single k=true)(ok:w.OK) :
  ∃ bs',Ex E0 I7 (Ti rb [.d p1,.d p2,.d p3,.d p4,.d p5,.d p6,.d p7,.d (.s 8 (W.ds ws))] ks j bs .u)
   (if dJ k w then(.norm,Ti rb [.d p1,.d p2,.d p3,.d p4,.d p5,.d p6,.d p7,.d (.s 8 (W.ds ws))] ks (j+1) bs' .u) else(.ret,ckF rb [.d p1,.d p2,.d p3,.d p4,.d p5,.d p6,.d p7,.d (.s 8 (W.ds ws))] bs')):=by
 have hj:=(aT hk)
 have hj2:=(aT hw)
 obtain⟨n1,t1⟩:=(PT k hs w ok).any;replace t1:=t1 (n1+60) (by omega);have n1':(LK .i64 ks).length=ks.length:=by simp[LK]
 have IU:(W.ds ws).length=ws.length:=by simp[W.fA]
 have e1:(LK .i64 ks)[j]?=some (.v (.int .i64 k)):=by simp[LK,hk]
 have e2:(W.ds ws)[j]?=some w.d:=by simp[W.fA,hw]
 have aR:ak .i64 ((j:Int)+1)=(j:Int)+1:=wrap_i64 (by omega);have hk1:((j+1:Nat):Int)=(j:Int)+1:=by omega
 have hk0:(0:Int)<=(j:Int):=by omega
 obtain⟨vv,hvv⟩:∃ vv,dJ k w=vv:=⟨_,rfl⟩
 rw[hvv]at t1 ⊢;obtain⟨sx,ax,bx,cx,ix,ux,px,Ci⟩:=w;simp only[W.d,PD,LD]at*;generalize LL ax=x1,LL bx=x2,List.map Mo.d px=x5,W.ds Ci=x7 at*;unfold Ti ckF;rw[hk1];generalize W.ds ws=es2 at*;have i2:=idx e2;have five:=bL hs;clear hs ok hvv hw;rcases five with rfl|rfl|rfl|rfl|rfl
 ·have t2:=fun m=>rH zD (n1+60+m) (by omega)
  have hF:zJ 1=108:=rfl;rw[hF]at t1;clear hk;generalize LK .i64 ks=es1 at*;have i1:=idx e1;generalize n1+60=N at*;refine⟨bs,Ex.of (n:=N+300) ?_⟩;simp only[pI,BB]at t2 ⊢;cases vv
  ·simp -implicitDefEqProofs[I7,f18,hj,hj2,hk0,i1,i2,n1',IU,t1,t2]
  ·simp -implicitDefEqProofs[I7,f18,hj,hj2,hk0,i1,i2,n1',IU,t1,t2,aR]
 ·have t2:=fun m=>rH zG (n1+60+m) (by omega)
  have hF:zJ 2=122:=rfl;rw[hF]at t1;clear hk;generalize LK .i64 ks=es1 at*;have i1:=idx e1;generalize n1+60=N at*;refine⟨bs++pJ.map (ae.shift (bs.length+2)),Ex.of (n:=N+300) ?_⟩;simp only[sG,nE,pJ]at t2 ⊢;cases vv
  ·simp -implicitDefEqProofs[I7,f18,hj,hj2,hk0,i1,i2,n1',IU,t1,t2]
  ·simp -implicitDefEqProofs[I7,f18,hj,hj2,hk0,i1,i2,n1',IU,t1,t2,aR]
 ·have t2:=fun m=>rH zH (n1+60+m) (by omega)
  have hF:zJ 3=133:=rfl;rw[hF]at t1;clear hk;generalize LK .i64 ks=es1 at*;have i1:=idx e1;generalize n1+60=N at*;refine⟨bs++pK.map (ae.shift (bs.length+2)),Ex.of (n:=N+300) ?_⟩;simp only[sH,nG,pK]at t2 ⊢;cases vv
  ·simp -implicitDefEqProofs[I7,f18,hj,hj2,hk0,i1,i2,n1',IU,t1,t2]
  ·simp -implicitDefEqProofs[I7,f18,hj,hj2,hk0,i1,i2,n1',IU,t1,t2,aR]
 ·have t2:=fun m=>rH zI (n1+60+m) (by omega)
  have hF:zJ 4=139:=rfl;rw[hF]at t1;clear hk;generalize LK .i64 ks=es1 at*;have i1:=idx e1;generalize n1+60=N at*;refine⟨bs++pM.map (ae.shift (bs.length+2)),Ex.of (n:=N+300) ?_⟩;simp only[sK,nH,pM]at t2 ⊢;cases vv
  ·simp -implicitDefEqProofs[I7,f18,hj,hj2,hk0,i1,i2,n1',IU,t1,t2]
  ·simp -implicitDefEqProofs[I7,f18,hj,hj2,hk0,i1,i2,n1',IU,t1,t2,aR]
 ·have t2:=fun m=>rH zF (n1+60+m) (by omega)
  have hF:zJ 5=149:=rfl;rw[hF]at t1;clear hk;generalize LK .i64 ks=es1 at*;have i1:=idx e1;generalize n1+60=N at*;refine⟨bs,Ex.of (n:=N+300) ?_⟩;simp only[pG]at t2 ⊢;cases vv
  ·simp -implicitDefEqProofs[I7,f18,hj,hj2,hk0,i1,i2,n1',IU,t1,t2]
  ·simp -implicitDefEqProofs[I7,f18,hj,hj2,hk0,i1,i2,n1',IU,t1,t2,aR]
theorem UK (rb:ae)(p1 p2 p3 p4 p5 p6 p7:D)(ws:List W)(ks:List Int)(hl:ks.length<=1000000)(he:ws.length=ks.length)(hs:ks.all single=true)(ok:∀ w ∈ ws,w.OK) :
  ∃ r,Ex E0 (.loop I7) (Ti rb [.d p1,.d p2,.d p3,.d p4,.d p5,.d p6,.d p7,.d (.s 8 (W.ds ws))] ks 0 [] .u) r /\
   ((oP ks ws=true/\∃ bs,r=(.exit 0,Ti rb [.d p1,.d p2,.d p3,.d p4,.d p5,.d p6,.d p7,.d (.s 8 (W.ds ws))] ks ks.length bs (.d (.v (.bool false))))) \/
    (oP ks ws=false/\∃ bs,r=(.ret,ckF rb [.d p1,.d p2,.d p3,.d p4,.d p5,.d p6,.d p7,.d (.s 8 (W.ds ws))] bs))):=by
 refine Ex.inv (S:=fun t:Nat × List ae=>Ti rb [.d p1,.d p2,.d p3,.d p4,.d p5,.d p6,.d p7,.d (.s 8 (W.ds ws))] ks t.1 t.2 .u) (fun t=>ks.length-t.1) (fun t=>t.1<=ks.length/\oP ks ws=oP (ks.drop t.1) (ws.drop t.1)) _ ?_ (0,[]) ⟨by simp,by simp⟩;rintro⟨j,bs⟩ ⟨q1,q2⟩;simp only at q1 q2
 by_cases hj:j<ks.length
 ·have hk:ks[j]?=some (ks[j]'hj):=List.getElem?_eq_getElem hj;have hw:ws[j]?=some (ws[j]'(by omega)):=List.getElem?_eq_getElem (by omega);have d1:ks.drop j=ks[j]'hj::ks.drop (j+1):=List.drop_eq_getElem_cons hj;have d2:ws.drop j=ws[j]'(by omega)::ws.drop (j+1):=List.drop_eq_getElem_cons (by omega);obtain⟨bs',hr⟩:=PW rb p1 p2 p3 p4 p5 p6 p7 ws ks j bs _ _ hl hk hw (List.all_eq_true.1 hs _ (List.getElem_mem hj)) (ok _ (List.getElem_mem (by omega)));rw[d1,d2]at q2;simp only[oP]at q2;cases hv:dJ (ks[j]'hj) (ws[j]'(by omega))
  ·rw[hv]at hr q2;exact .inr ⟨_,hr,by simp,.inr ⟨by simpa using q2,bs',rfl⟩⟩
  ·rw[hv]at hr q2;exact .inl ⟨(j+1,bs'),hr,by simp only;omega,by simp only;omega,by simpa using q2⟩
 ·have eP:j=ks.length:=by omega
  subst eP;rw[List.drop_length]at q2;refine .inr ⟨_,Ex.of (n:=60) ?_,?_,.inl ⟨by rw[q2];rfl,bs,rfl⟩⟩
  ·unfold Ti;generalize LK .i64 ks=l1,W.ds ws=l2,ks.length=m at*;simp -implicitDefEqProofs[I7,f18]
  ·simp
theorem L8 (ps:List Int)(w:W)(hl:ps.length<=1000000)(hw:w.OK)(uD:aQ 6 ps=true)(hv:∀ n,CL E0 (n+500) 31 [.d (bG 6 ps)] []=some (.d (.v (.bool true)),none)) :
  Ca E0 18 [.d (bG 6 ps),.d w.d] (.d (.v (.bool ((w.ps.length==ps.length)&&w.bare&&oP ps w.ps))),none):=by
 have hs:ps.all single=true:=by
  unfold aQ at uD;rw[if_neg (by simp)]at uD;simp only[Bool.and_eq_true]at uD;exact uD.2
 have ok:=hw;cases hw with
 | @mk s a b c i u p ws ha hb la lb hp lp hok =>
  simp only[W.ps];have n1:(LK .i64 ps).length=ps.length:=by simp[LK]
  have n2:(W.ds ws).length=ws.length:=by simp[W.fA]
  obtain⟨N,t⟩:=(iT _ ok _ (.mk (s:=false) (a:=[]) (b:=[]) (c:=0) (i:=false) (u:=0) (p:=[]) jP jP (by simp) (by simp) zC lp hok)).any;rw[eq_bare]at t;generalize hbare:W.bare (.mk s a b c i u p ws)=bare at*
  by_cases hlen:ws.length=ps.length
  ·have hl1:(ws.length==ps.length)=true:=by simpa using hlen
   have hne:((ws.length:Int) != (ps.length:Int))=false:=by simp;omega
   rw[hl1,Bool.true_and];cases hbb:bare
   ·rw[hbb]at t;rw[Bool.false_and];replace t:=t N (by omega);refine Ca.bO (n:=N+700) ?_;rw[aA rfl (k18:E0.fn _=_) rfl];have hv':=fun n=>hv (N+n)
    simp only[W.d,W.ds,PD,LD,bG]at*;generalize LL a=x1,LL b=x2 at*;simp only[LL,List.map_nil]at*;generalize List.map Mo.d p=x5,W.ds ws=x7,LK .i64 ps=l1 at*;simp -implicitDefEqProofs[f18,hv,t,n1,n2,hne]
   ·rw[hbb]at t;rw[Bool.true_and];obtain⟨r,hr,hq⟩:=UK (.box [.d (.v (.int .i64 6)),.d (.s 1 (LK .i64 ps))]) (.v (.bool s)) (LD a) (LD b) (.v (.int .i64 c)) (.v (.bool i)) (.v (.int .u64 u)) (PD p) ws ps hl hlen hs hok;replace t:=t N (by omega);have hA:Ex E0 f18.body.l (st0 [.d (bG 6 ps),.d (W.mk s a b c i u p ws).d,.u,.u,.u,.u,.u,.u,.u,.u,.u,.u,.u,.u,.u] [])
      (.norm,(st0 [.u,.u,.r (.loc 0) 0,.r (.loc 1) 0,.u,.u,.u,.u,.u,.u,.u,.u,.u,.u,.u] [.box [.d (.v (.int .i64 6)),.d (.s 1 (LK .i64 ps))],.box [.d (.v (.bool s)),.d (LD a),.d (LD b),.d (.v (.int .i64 c)),.d (.v (.bool i)),.d (.v (.int .u64 u)),.d (PD p),.d (.s 8 (W.ds ws))]])):=by
     refine Ex.of (n:=40) ?_;simp only[W.d,PD,LD,bG];generalize LL a=x1,LL b=x2,List.map Mo.d p=x5,W.ds ws=x7,LK .i64 ps=l1 at*;simp -implicitDefEqProofs[f18]
    have hB:Ex E0 f18.body.r.l (st0 [.u,.u,.r (.loc 0) 0,.r (.loc 1) 0,.u,.u,.u,.u,.u,.u,.u,.u,.u,.u,.u] [.box [.d (.v (.int .i64 6)),.d (.s 1 (LK .i64 ps))],.box [.d (.v (.bool s)),.d (LD a),.d (LD b),.d (.v (.int .i64 c)),.d (.v (.bool i)),.d (.v (.int .u64 u)),.d (PD p),.d (.s 8 (W.ds ws))]])
      (.norm,(st0 [.u,.u,.r (.loc 0) 0,.r (.loc 1) 0,.u,.u,.u,.d (.v (.bool false)),.u,.u,.u,.u,.u,.u,.u] [.box [.d (.v (.int .i64 6)),.d (.s 1 (LK .i64 ps))],.box [.d (.v (.bool s)),.d (LD a),.d (LD b),.d (.v (.int .i64 c)),.d (.v (.bool i)),.d (.v (.int .u64 u)),.d (PD p),.d (.s 8 (W.ds ws))]])):=by
     clear hr hq hA;refine Ex.of (n:=600) ?_;simp only[PD,LD,bG]at hv ⊢;generalize LL a=x1,LL b=x2,List.map Mo.d p=x5,W.ds ws=x7,LK .i64 ps=l1 at*;simp -implicitDefEqProofs[f18,hv]
    have hC:Ex E0 f18.body.r.r.l (st0 [.u,.u,.r (.loc 0) 0,.r (.loc 1) 0,.u,.u,.u,.d (.v (.bool false)),.u,.u,.u,.u,.u,.u,.u] [.box [.d (.v (.int .i64 6)),.d (.s 1 (LK .i64 ps))],.box [.d (.v (.bool s)),.d (LD a),.d (LD b),.d (.v (.int .i64 c)),.d (.v (.bool i)),.d (.v (.int .u64 u)),.d (PD p),.d (.s 8 (W.ds ws))]])
      (.norm,(st0 [.u,.u,.r (.loc 0) 0,.r (.loc 1) 0,.u,.u,.u,.u,.d (.v (.bool false)),.u,.u,.u,.u,.u,.u] [.box [.d (.v (.int .i64 6)),.d (.s 1 (LK .i64 ps))],.box [.d (.v (.bool s)),.d (LD a),.d (LD b),.d (.v (.int .i64 c)),.d (.v (.bool i)),.d (.v (.int .u64 u)),.d (PD p),.d (.s 8 (W.ds ws))]])):=by
     refine Ex.of (n:=60) ?_;simp only[PD,LD];generalize LL a=x1,LL b=x2,List.map Mo.d p=x5,W.ds ws=x7,LK .i64 ps=l1 at*;simp -implicitDefEqProofs[f18]
    have hD:Ex E0 f18.body.r.r.r.l (st0 [.u,.u,.r (.loc 0) 0,.r (.loc 1) 0,.u,.u,.u,.u,.d (.v (.bool false)),.u,.u,.u,.u,.u,.u] [.box [.d (.v (.int .i64 6)),.d (.s 1 (LK .i64 ps))],.box [.d (.v (.bool s)),.d (LD a),.d (LD b),.d (.v (.int .i64 c)),.d (.v (.bool i)),.d (.v (.int .u64 u)),.d (PD p),.d (.s 8 (W.ds ws))]])
      (.norm,(st0 [.u,.u,.r (.loc 0) 0,.r (.loc 1) 0,.u,.u,.u,.u,.u,.d (.v (.bool false)),.u,.u,.u,.u,.u] [.box [.d (.v (.int .i64 6)),.d (.s 1 (LK .i64 ps))],.box [.d (.v (.bool s)),.d (LD a),.d (LD b),.d (.v (.int .i64 c)),.d (.v (.bool i)),.d (.v (.int .u64 u)),.d (PD p),.d (.s 8 (W.ds ws))]])):=by
     clear hr hq hA hB hC hv;refine Ex.of (n:=N+90) ?_;simp only[W.d,PD,LD,W.ds]at t ⊢;generalize LL a=x1,LL b=x2 at*;simp only[LL,List.map_nil]at t;generalize List.map Mo.d p=x5,W.ds ws=x7,LK .i64 ps=l1 at*;simp -implicitDefEqProofs[f18,t,n1,n2,hne]
    have hE:Ex E0 f18.body.r.r.r.r.l.l (st0 [.u,.u,.r (.loc 0) 0,.r (.loc 1) 0,.u,.u,.u,.u,.u,.d (.v (.bool false)),.u,.u,.u,.u,.u] [.box [.d (.v (.int .i64 6)),.d (.s 1 (LK .i64 ps))],.box [.d (.v (.bool s)),.d (LD a),.d (LD b),.d (.v (.int .i64 c)),.d (.v (.bool i)),.d (.v (.int .u64 u)),.d (PD p),.d (.s 8 (W.ds ws))]])
      (.norm,Ti (.box [.d (.v (.int .i64 6)),.d (.s 1 (LK .i64 ps))]) [.d (.v (.bool s)),.d (LD a),.d (LD b),.d (.v (.int .i64 c)),.d (.v (.bool i)),.d (.v (.int .u64 u)),.d (PD p),.d (.s 8 (W.ds ws))] ps 0 [] .u):=by
     refine Ex.of (n:=60) ?_;unfold Ti;simp only[PD,LD];generalize LL a=x1,LL b=x2,List.map Mo.d p=x5,W.ds ws=x7,LK .i64 ps=l1 at*;simp -implicitDefEqProofs[f18,n1]
    rcases hq with ⟨hall,bs,rfl⟩|⟨hall,bs,rfl⟩
    ·rw[hall];refine Ca.body (o:=.ret) (st1:=(st0 [.u,.u,.u,.u,.d (.v (.bool true)),.u,.u,.u,.u,.u,.u,.u,.u,.u,.u] (.box [.d (.v (.int .i64 6)),.d (.s 1 (LK .i64 ps))]::.box [.d (.v (.bool s)),.d (LD a),.d (LD b),.d (.v (.int .i64 c)),.d (.v (.bool i)),.d (.v (.int .u64 u)),.d (PD p),.d (.s 8 (W.ds ws))]::bs))) rfl (k18:E0.fn _=_) rfl ?_ (by intro id h;cases h) ?_
     ·show Ex E0 (.seq f18.body.l (.seq f18.body.r.l (.seq f18.body.r.r.l (.seq f18.body.r.r.r.l (.seq (.seq f18.body.r.r.r.r.l.l (.block 0 (.loop I7))) f18.body.r.r.r.r.r))))) _ _;refine hA.seq (hB.seq (hC.seq (hD.seq ((hE.seq hr.block).seq (Ex.of (n:=40) ?_)))));unfold Ti;generalize LK .i64 ps=l1 at*;simp -implicitDefEqProofs[f18]
     ·simp -implicitDefEqProofs[f18]
    ·rw[hall];refine Ca.body (o:=.ret) (st1:=ckF (.box [.d (.v (.int .i64 6)),.d (.s 1 (LK .i64 ps))]) [.d (.v (.bool s)),.d (LD a),.d (LD b),.d (.v (.int .i64 c)),.d (.v (.bool i)),.d (.v (.int .u64 u)),.d (PD p),.d (.s 8 (W.ds ws))] bs) rfl (k18:E0.fn _=_) rfl ?_ (by intro id h;cases h) ?_
     ·show Ex E0 (.seq f18.body.l (.seq f18.body.r.l (.seq f18.body.r.r.l (.seq f18.body.r.r.r.l (.seq (.seq f18.body.r.r.r.r.l.l (.block 0 (.loop I7))) f18.body.r.r.r.r.r))))) _ _;exact hA.seq (hB.seq (hC.seq (hD.seq (hE.seq hr.bf).bD)))
     ·simp -implicitDefEqProofs[f18,ckF]
  ·have hl1:(ws.length==ps.length)=false:=by simpa using hlen
   have hne:((ws.length:Int) != (ps.length:Int))=true:=by simp;omega
   rw[hl1,Bool.false_and,Bool.false_and];refine Ca.bO (n:=700) ?_;rw[aA rfl (k18:E0.fn _=_) rfl];simp only[W.d,PD,LD,bG]at*;generalize LL a=x1,LL b=x2,List.map Mo.d p=x5,W.ds ws=x7,LK .i64 ps=l1 at*;simp -implicitDefEqProofs[f18,hv,n1,n2,hne]
theorem L9 (k:Int)(ps:List Int)(w:W)(hk:k≠6)(hw:w.OK)(uD:aQ k ps=true)(hv:∀ n,CL E0 (n+500) 31 [.d (bG k ps)] []=some (.d (.v (.bool true)),none)) :
  Ca E0 18 [.d (bG k ps),.d w.d] (.d (.v (.bool (dJ k w))),none):=by
 have hne:(k != 6)=true:=by simpa using hk
 have hs:single k=true:=by
  unfold aQ at uD;rw[if_pos hk]at uD;simp only[Bool.and_eq_true]at uD;exact uD.1
 obtain⟨n1,t1⟩:=(PT k hs w hw).any;replace t1:=t1 (n1+600) (by omega);have hv':∀ m,CL E0 (n1+600+m) 31 [.d (bG k ps)] []=some (.d (.v (.bool true)),none):=fun m=>by
  have:=hv (n1+100+m)
  rwa [show n1+100+m+500=n1+600+m by omega]at this
 clear hv;generalize dJ k w=vv at*;clear uD hw;obtain⟨sx,ax,bx,cx,ix,ux,px,Ci⟩:=w;simp only[W.d,PD,LD,bG]at*;generalize LL ax=x1,LL bx=x2,List.map Mo.d px=x5,W.ds Ci=x7 at*;rcases bL hs with rfl|rfl|rfl|rfl|rfl
 ·have t2:=fun m=>rH zD (n1+600+m) (by omega)
  have hF:zJ 1=108:=rfl;rw[hF]at t1;generalize n1+600=N at*;refine Ca.bO (n:=N+90) ?_;rw[aA rfl (k18:E0.fn _=_) rfl];simp only[pI,BB]at t2;generalize LK .i64 ps=l1 at*;simp -implicitDefEqProofs[f18,hv',t1,t2]
 ·have t2:=fun m=>rH zG (n1+600+m) (by omega)
  have hF:zJ 2=122:=rfl;rw[hF]at t1;generalize n1+600=N at*;refine Ca.bO (n:=N+90) ?_;rw[aA rfl (k18:E0.fn _=_) rfl];simp only[sG,nE,pJ]at t2;generalize LK .i64 ps=l1 at*;simp -implicitDefEqProofs[f18,hv',t1,t2]
 ·have t2:=fun m=>rH zH (n1+600+m) (by omega)
  have hF:zJ 3=133:=rfl;rw[hF]at t1;generalize n1+600=N at*;refine Ca.bO (n:=N+90) ?_;rw[aA rfl (k18:E0.fn _=_) rfl];simp only[sH,nG,pK]at t2;generalize LK .i64 ps=l1 at*;simp -implicitDefEqProofs[f18,hv',t1,t2]
 ·have t2:=fun m=>rH zI (n1+600+m) (by omega)
  have hF:zJ 4=139:=rfl;rw[hF]at t1;generalize n1+600=N at*;refine Ca.bO (n:=N+90) ?_;rw[aA rfl (k18:E0.fn _=_) rfl];simp only[sK,nH,pM]at t2;generalize LK .i64 ps=l1 at*;simp -implicitDefEqProofs[f18,hv',t1,t2]
 ·have t2:=fun m=>rH zF (n1+600+m) (by omega)
  have hF:zJ 5=149:=rfl;rw[hF]at t1;generalize n1+600=N at*;refine Ca.bO (n:=N+90) ?_;rw[aA rfl (k18:E0.fn _=_) rfl];simp only[pG]at t2;generalize LK .i64 ps=l1 at*;simp -implicitDefEqProofs[f18,hv',t1,t2]
theorem zK (k:Int)(ps:List Int)(w:W)(hl:ps.length<=1000000)(hw:w.OK):Ca E0 18 [.d (bG k ps),.d w.d] (.d (.v (.bool (bM k ps w))),none):=by
 have hv:=fun n=>nD n k ps
 unfold bM;cases uD:aQ k ps
 ·rw[uD]at hv;rw[Bool.false_and];refine Ca.bO (n:=600) ?_;rw[aA rfl (k18:E0.fn _=_) rfl];obtain⟨sx,ax,bx,cx,ix,ux,px,Ci⟩:=w;simp only[W.d,PD,LD,bG]at*;generalize LL ax=x1,LL bx=x2,List.map Mo.d px=x5,W.ds Ci=x7,LK .i64 ps=l1 at*;simp -implicitDefEqProofs[f18,hv]
 ·rw[uD]at hv;rw[Bool.true_and]
  by_cases hk:k=6
  ·subst hk;rw[if_neg (by simp)];exact L8 ps w hl hw uD hv
  ·rw[if_pos hk];exact L9 k ps w hk hw uD hv
def Yp:aD:=f29.body.r.r.r.r.l.r.bl.lp
def Tj (k:Int)(ks:List Int)(wb:List FV)(j:Nat)(t:FV):St:=(st0 [.u,.u,.r (.loc 0) 0,.r (.loc 1) 0,.u,.d (.v (.int .i64 j)),.u,.u,.u,t,.u] [.box [.d (.v (.int .i64 k)),.d (.s 1 (LK .i64 ks))],.box wb])
def wcF (k:Int)(ks:List Int)(wb:List FV):St:=(st0 [.u,.u,.u,.u,.d (.v (.bool false)),.u,.u,.u,.u,.u,.u] [.box [.d (.v (.int .i64 k)),.d (.s 1 (LK .i64 ks))],.box wb])
theorem PX (k0:Int)(p1 p2 p3 p4 p5 p6 p7:D)(ws:List W)(ks:List Int)(j:Nat)(k:Int)(w:W)(hl:ks.length<=1000000)(hk:ks[j]?=some k)(hw:ws[j]?=some w)(hs:single k=true)(ok:w.OK) :
  Ex E0 Yp (Tj k0 ks [.d p1,.d p2,.d p3,.d p4,.d p5,.d p6,.d p7,.d (.s 8 (W.ds ws))] j .u)
   (if dJ k w then(.norm,Tj k0 ks [.d p1,.d p2,.d p3,.d p4,.d p5,.d p6,.d p7,.d (.s 8 (W.ds ws))] (j+1) .u) else(.ret,wcF k0 ks [.d p1,.d p2,.d p3,.d p4,.d p5,.d p6,.d p7,.d (.s 8 (W.ds ws))])):=by
 have hj:=(aT hk)
 have hj2:=(aT hw)
 obtain⟨N,t1⟩:=(Ck k hs w ok).get;have n1':(LK .i64 ks).length=ks.length:=by simp[LK]
 have IU:(W.ds ws).length=ws.length:=by simp[W.fA]
 have e1:(LK .i64 ks)[j]?=some (.v (.int .i64 k)):=by simp[LK,hk]
 have e2:(W.ds ws)[j]?=some w.d:=by simp[W.fA,hw]
 have aR:ak .i64 ((j:Int)+1)=(j:Int)+1:=wrap_i64 (by omega);have hk1:((j+1:Nat):Int)=(j:Int)+1:=by omega
 have hk0:(0:Int)<=(j:Int):=by omega
 generalize dJ k w=vv at*;clear hs ok hw hk;obtain⟨sx,ax,bx,cx,ix,ux,px,Ci⟩:=w;simp only[W.d,PD,LD]at*;generalize LL ax=x1,LL bx=x2,List.map Mo.d px=x5,W.ds Ci=x7 at*;refine Ex.of (n:=N+90) ?_;unfold Tj wcF;rw[hk1];generalize W.ds ws=es2,LK .i64 ks=es1 at*;have i1:=idx e1;have i2:=idx e2;cases vv
 ·simp -implicitDefEqProofs[Yp,f29,hj,hj2,hk0,e1,e2,i1,i2,n1',IU,t1]
 ·simp -implicitDefEqProofs[Yp,f29,hj,hj2,hk0,e1,e2,i1,i2,n1',IU,t1,aR]
theorem UL (k0:Int)(p1 p2 p3 p4 p5 p6 p7:D)(ws:List W)(ks:List Int)(hl:ks.length<=1000000)(he:ws.length=ks.length)(hs:ks.all single=true)(ok:∀ w ∈ ws,w.OK) :
  ∃ r,Ex E0 (.loop Yp) (Tj k0 ks [.d p1,.d p2,.d p3,.d p4,.d p5,.d p6,.d p7,.d (.s 8 (W.ds ws))] 0 .u) r /\
   ((oP ks ws=true/\r=(.exit 0,Tj k0 ks [.d p1,.d p2,.d p3,.d p4,.d p5,.d p6,.d p7,.d (.s 8 (W.ds ws))] ks.length (.d (.v (.bool false))))) \/
    (oP ks ws=false/\r=(.ret,wcF k0 ks [.d p1,.d p2,.d p3,.d p4,.d p5,.d p6,.d p7,.d (.s 8 (W.ds ws))]))):=by
 refine Ex.inv (S:=fun j:Nat=>Tj k0 ks [.d p1,.d p2,.d p3,.d p4,.d p5,.d p6,.d p7,.d (.s 8 (W.ds ws))] j .u) (fun j=>ks.length-j) (fun j=>j<=ks.length/\oP ks ws=oP (ks.drop j) (ws.drop j)) _ ?_ 0 ⟨by simp,by simp⟩;rintro j ⟨q1,q2⟩
 by_cases hj:j<ks.length
 ·have hk:ks[j]?=some (ks[j]'hj):=List.getElem?_eq_getElem hj;have hw:ws[j]?=some (ws[j]'(by omega)):=List.getElem?_eq_getElem (by omega);have d1:ks.drop j=ks[j]'hj::ks.drop (j+1):=List.drop_eq_getElem_cons hj;have d2:ws.drop j=ws[j]'(by omega)::ws.drop (j+1):=List.drop_eq_getElem_cons (by omega);have hr:=PX k0 p1 p2 p3 p4 p5 p6 p7 ws ks j _ _ hl hk hw (List.all_eq_true.1 hs _ (List.getElem_mem hj)) (ok _ (List.getElem_mem (by omega)));rw[d1,d2]at q2;simp only[oP]at q2;cases hv:dJ (ks[j]'hj) (ws[j]'(by omega))
  ·rw[hv]at hr q2;exact .inr ⟨_,hr,by simp,.inr ⟨by simpa using q2,rfl⟩⟩
  ·rw[hv]at hr q2;exact .inl ⟨j+1,hr,by omega,by omega,by simpa using q2⟩
 ·have eP:j=ks.length:=by omega
  subst eP;have n1':(LK .i64 ks).length=ks.length:=by simp[LK]
  rw[List.drop_length]at q2;refine .inr ⟨_,Ex.of (n:=60) ?_,?_,.inl ⟨by rw[q2];rfl,rfl⟩⟩
  ·unfold Tj;generalize LK .i64 ks=l1,W.ds ws=l2,ks.length=m at*;simp -implicitDefEqProofs[Yp,f29,n1']
  ·simp
theorem I8 (ps:List Int)(w:W)(hl:ps.length<=1000000)(hw:w.OK)(uD:aQ 6 ps=true)(hv:∀ n,CL E0 (n+500) 28 [.d (bG 6 ps)] []=some (.d (.v (.bool true)),none)) :
  Ca E0 29 [.d (bG 6 ps),.d w.d] (.d (.v (.bool ((w.ps.length==ps.length)&&w.bare&&oP ps w.ps))),none):=by
 have hs:ps.all single=true:=by
  unfold aQ at uD;rw[if_neg (by simp)]at uD;simp only[Bool.and_eq_true]at uD;exact uD.2
 have ok:=hw;cases hw with
 | @mk s a b c i u p ws ha hb la lb hp lp hok =>
  simp only[W.ps];have n1:(LK .i64 ps).length=ps.length:=by simp[LK]
  have n2:(W.ds ws).length=ws.length:=by simp[W.fA]
  obtain⟨N,t⟩:=(qQ _ (.mk (s:=false) (a:=[]) (b:=[]) (c:=0) (i:=false) (u:=0) (p:=[]) jP jP (by simp) (by simp) zC lp hok) _ ok).any;rw[PU]at t;generalize hbare:W.bare (.mk s a b c i u p ws)=bare at*
  by_cases hlen:ws.length=ps.length
  ·have hl1:(ws.length==ps.length)=true:=by simpa using hlen
   have hne:((ws.length:Int) != (ps.length:Int))=false:=by simp;omega
   rw[hl1,Bool.true_and];have hA:Ex E0 f29.body.l (st0 [.d (bG 6 ps),.d (W.mk s a b c i u p ws).d,.u,.u,.u,.u,.u,.u,.u,.u,.u] [])
     (.norm,(st0 [.u,.u,.r (.loc 0) 0,.r (.loc 1) 0,.u,.u,.u,.u,.u,.u,.u] [.box [.d (.v (.int .i64 6)),.d (.s 1 (LK .i64 ps))],.box [.d (.v (.bool s)),.d (LD a),.d (LD b),.d (.v (.int .i64 c)),.d (.v (.bool i)),.d (.v (.int .u64 u)),.d (PD p),.d (.s 8 (W.ds ws))]])):=by
    refine Ex.of (n:=40) ?_;simp only[W.d,PD,LD,bG];generalize LL a=x1;generalize LL b=x2;generalize List.map Mo.d p=x5;generalize W.ds ws=x7;generalize LK .i64 ps=l1;simp -implicitDefEqProofs[f29]
   have hB:Ex E0 f29.body.r.l (st0 [.u,.u,.r (.loc 0) 0,.r (.loc 1) 0,.u,.u,.u,.u,.u,.u,.u] [.box [.d (.v (.int .i64 6)),.d (.s 1 (LK .i64 ps))],.box [.d (.v (.bool s)),.d (LD a),.d (LD b),.d (.v (.int .i64 c)),.d (.v (.bool i)),.d (.v (.int .u64 u)),.d (PD p),.d (.s 8 (W.ds ws))]])
     (.norm,(st0 [.u,.u,.r (.loc 0) 0,.r (.loc 1) 0,.u,.u,.d (.v (.bool false)),.u,.u,.u,.u] [.box [.d (.v (.int .i64 6)),.d (.s 1 (LK .i64 ps))],.box [.d (.v (.bool s)),.d (LD a),.d (LD b),.d (.v (.int .i64 c)),.d (.v (.bool i)),.d (.v (.int .u64 u)),.d (PD p),.d (.s 8 (W.ds ws))]])):=by
    refine Ex.of (n:=600) ?_;simp only[PD,LD,bG]at hv ⊢;generalize LL a=x1;generalize LL b=x2;generalize List.map Mo.d p=x5;generalize W.ds ws=x7;generalize LK .i64 ps=l1 at hv ⊢;simp -implicitDefEqProofs[f29,hv]
   have hC:Ex E0 f29.body.r.r.l (st0 [.u,.u,.r (.loc 0) 0,.r (.loc 1) 0,.u,.u,.d (.v (.bool false)),.u,.u,.u,.u] [.box [.d (.v (.int .i64 6)),.d (.s 1 (LK .i64 ps))],.box [.d (.v (.bool s)),.d (LD a),.d (LD b),.d (.v (.int .i64 c)),.d (.v (.bool i)),.d (.v (.int .u64 u)),.d (PD p),.d (.s 8 (W.ds ws))]])
     (.norm,(st0 [.u,.u,.r (.loc 0) 0,.r (.loc 1) 0,.u,.u,.u,.d (.v (.bool false)),.u,.u,.u] [.box [.d (.v (.int .i64 6)),.d (.s 1 (LK .i64 ps))],.box [.d (.v (.bool s)),.d (LD a),.d (LD b),.d (.v (.int .i64 c)),.d (.v (.bool i)),.d (.v (.int .u64 u)),.d (PD p),.d (.s 8 (W.ds ws))]])):=by
    refine Ex.of (n:=60) ?_;simp only[PD,LD];generalize LL a=x1;generalize LL b=x2;generalize List.map Mo.d p=x5;generalize W.ds ws=x7;generalize LK .i64 ps=l1;simp -implicitDefEqProofs[f29]
   cases hbb:bare
   ·rw[hbb]at t;rw[Bool.false_and];replace t:=t N (by omega);refine Ca.body (o:=.ret) (st1:=(st0 [.u,.u,.u,.u,.d (.v (.bool false)),.u,.u,.u,.u,.u,.u] [.box [.d (.v (.int .i64 6)),.d (.s 1 (LK .i64 ps))],.box [.d (.v (.bool s)),.d (LD a),.d (LD b),.d (.v (.int .i64 c)),.d (.v (.bool i)),.d (.v (.int .u64 u)),.d (PD p),.d (.s 8 (W.ds ws))]])) rfl (k29:E0.fn _=_) rfl ?_ (by intro id h;cases h) ?_
    ·show Ex E0 (.seq f29.body.l (.seq f29.body.r.l (.seq f29.body.r.r.l f29.body.r.r.r))) _ _;refine hA.seq (hB.seq (hC.seq (Ex.of (n:=N+90) ?_)));simp only[W.d,PD,LD,W.ds]at t ⊢;generalize LL a=x1 at t ⊢;generalize LL b=x2 at t ⊢;simp only[LL,List.map_nil]at t;generalize List.map Mo.d p=x5 at t ⊢;generalize W.ds ws=x7 at t n2 ⊢;generalize LK .i64 ps=l1 at n1 ⊢;simp -implicitDefEqProofs[f29,t,n1,n2,hne]
    ·simp -implicitDefEqProofs[f29]
   ·rw[hbb]at t;rw[Bool.true_and];obtain⟨r,hr,hq⟩:=UL 6 (.v (.bool s)) (LD a) (LD b) (.v (.int .i64 c)) (.v (.bool i)) (.v (.int .u64 u)) (PD p) ws ps hl hlen hs hok;replace t:=t N (by omega);have hD:Ex E0 f29.body.r.r.r.l (st0 [.u,.u,.r (.loc 0) 0,.r (.loc 1) 0,.u,.u,.u,.d (.v (.bool false)),.u,.u,.u] [.box [.d (.v (.int .i64 6)),.d (.s 1 (LK .i64 ps))],.box [.d (.v (.bool s)),.d (LD a),.d (LD b),.d (.v (.int .i64 c)),.d (.v (.bool i)),.d (.v (.int .u64 u)),.d (PD p),.d (.s 8 (W.ds ws))]])
      (.norm,(st0 [.u,.u,.r (.loc 0) 0,.r (.loc 1) 0,.u,.u,.u,.u,.d (.v (.bool false)),.u,.u] [.box [.d (.v (.int .i64 6)),.d (.s 1 (LK .i64 ps))],.box [.d (.v (.bool s)),.d (LD a),.d (LD b),.d (.v (.int .i64 c)),.d (.v (.bool i)),.d (.v (.int .u64 u)),.d (PD p),.d (.s 8 (W.ds ws))]])):=by
     refine Ex.of (n:=N+90) ?_;simp only[W.d,PD,LD,W.ds]at t ⊢;generalize LL a=x1 at t ⊢;generalize LL b=x2 at t ⊢;simp only[LL,List.map_nil]at t;generalize List.map Mo.d p=x5 at t ⊢;generalize W.ds ws=x7 at t n2 ⊢;generalize LK .i64 ps=l1 at n1 ⊢;simp -implicitDefEqProofs[f29,t,n1,n2,hne]
    have hE:Ex E0 f29.body.r.r.r.r.l.l (st0 [.u,.u,.r (.loc 0) 0,.r (.loc 1) 0,.u,.u,.u,.u,.d (.v (.bool false)),.u,.u] [.box [.d (.v (.int .i64 6)),.d (.s 1 (LK .i64 ps))],.box [.d (.v (.bool s)),.d (LD a),.d (LD b),.d (.v (.int .i64 c)),.d (.v (.bool i)),.d (.v (.int .u64 u)),.d (PD p),.d (.s 8 (W.ds ws))]])
      (.norm,Tj 6 ps [.d (.v (.bool s)),.d (LD a),.d (LD b),.d (.v (.int .i64 c)),.d (.v (.bool i)),.d (.v (.int .u64 u)),.d (PD p),.d (.s 8 (W.ds ws))] 0 .u):=by
     refine Ex.of (n:=60) ?_;unfold Tj;simp only[PD,LD];generalize LL a=x1;generalize LL b=x2;generalize List.map Mo.d p=x5;generalize W.ds ws=x7;generalize LK .i64 ps=l1;simp -implicitDefEqProofs[f29]
    rcases hq with ⟨hall,rfl⟩|⟨hall,rfl⟩
    ·rw[hall];refine Ca.body (o:=.ret) (st1:=(st0 [.u,.u,.u,.u,.d (.v (.bool true)),.u,.u,.u,.u,.u,.u] [.box [.d (.v (.int .i64 6)),.d (.s 1 (LK .i64 ps))],.box [.d (.v (.bool s)),.d (LD a),.d (LD b),.d (.v (.int .i64 c)),.d (.v (.bool i)),.d (.v (.int .u64 u)),.d (PD p),.d (.s 8 (W.ds ws))]])) rfl (k29:E0.fn _=_) rfl ?_ (by intro id h;cases h) ?_
     ·show Ex E0 (.seq f29.body.l (.seq f29.body.r.l (.seq f29.body.r.r.l (.seq f29.body.r.r.r.l (.seq (.seq f29.body.r.r.r.r.l.l (.block 0 (.loop Yp))) f29.body.r.r.r.r.r))))) _ _;refine hA.seq (hB.seq (hC.seq (hD.seq ((hE.seq hr.block).seq (Ex.of (n:=40) ?_)))));unfold Tj;generalize LK .i64 ps=l1;simp -implicitDefEqProofs[f29]
     ·simp -implicitDefEqProofs[f29]
    ·rw[hall];refine Ca.body (o:=.ret) (st1:=wcF 6 ps [.d (.v (.bool s)),.d (LD a),.d (LD b),.d (.v (.int .i64 c)),.d (.v (.bool i)),.d (.v (.int .u64 u)),.d (PD p),.d (.s 8 (W.ds ws))]) rfl (k29:E0.fn _=_) rfl ?_ (by intro id h;cases h) ?_
     ·show Ex E0 (.seq f29.body.l (.seq f29.body.r.l (.seq f29.body.r.r.l (.seq f29.body.r.r.r.l (.seq (.seq f29.body.r.r.r.r.l.l (.block 0 (.loop Yp))) f29.body.r.r.r.r.r))))) _ _;exact hA.seq (hB.seq (hC.seq (hD.seq (hE.seq hr.bf).bD)))
     ·simp -implicitDefEqProofs[f29,wcF]
  ·have hl1:(ws.length==ps.length)=false:=by simpa using hlen
   have hne:((ws.length:Int) != (ps.length:Int))=true:=by simp;omega
   rw[hl1,Bool.false_and,Bool.false_and];refine Ca.bO (n:=700) ?_;rw[aA rfl (k29:E0.fn _=_) rfl];clear t hok ok;simp only[W.d,PD,LD,bG]at*;generalize LL a=x1,LL b=x2,List.map Mo.d p=x5,W.ds ws=x7,LK .i64 ps=l1 at*;simp -implicitDefEqProofs[f29,hv,n1,n2,hne]
theorem qR (k:Int)(ps:List Int)(w:W)(hl:ps.length<=1000000)(hw:w.OK):Ca E0 29 [.d (bG k ps),.d w.d] (.d (.v (.bool (bM k ps w))),none):=by
 have hv:=fun n=>iK n k ps
 unfold bM;cases uD:aQ k ps
 ·rw[uD]at hv;rw[Bool.false_and];refine Ca.bO (n:=600) ?_;rw[aA rfl (k29:E0.fn _=_) rfl];obtain⟨sx,ax,bx,cx,ix,ux,px,Ci⟩:=w;simp only[W.d,PD,LD,bG]at*;generalize LL ax=x1,LL bx=x2,List.map Mo.d px=x5,W.ds Ci=x7,LK .i64 ps=l1 at*;simp -implicitDefEqProofs[f29,hv]
 ·rw[uD]at hv;rw[Bool.true_and]
  by_cases hk:k=6
  ·subst hk;rw[if_neg (by simp)];exact I8 ps w hl hw uD hv
  ·rw[if_pos hk];have hne:(k != 6)=true:=by simpa using hk
   have hs:single k=true:=by
    unfold aQ at uD;rw[if_pos hk]at uD;simp only[Bool.and_eq_true]at uD;exact uD.1
   obtain⟨n1,t1⟩:=(Ck k hs w hw).any;replace t1:=t1 (n1+600) (by omega);have hv':∀ m,CL E0 (n1+600+m) 28 [.d (bG k ps)] []=some (.d (.v (.bool true)),none):=fun m=>by
    have:=hv (n1+100+m)
    rwa [show n1+100+m+500=n1+600+m by omega]at this
   clear hv;generalize dJ k w=vv,n1+600=N at*;clear uD hw;refine Ca.bO (n:=N+90) ?_;rw[aA rfl (k29:E0.fn _=_) rfl];obtain⟨sx,ax,bx,cx,ix,ux,px,Ci⟩:=w;simp only[W.d,PD,LD,bG]at*;generalize LL ax=x1,LL bx=x2,List.map Mo.d px=x5,W.ds Ci=x7,LK .i64 ps=l1 at*;simp -implicitDefEqProofs[f29,hv',t1,hne]
end Fi.S
