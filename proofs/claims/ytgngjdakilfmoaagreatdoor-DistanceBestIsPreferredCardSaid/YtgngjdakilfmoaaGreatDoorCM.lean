import Derived.Test.YtgngjdakilfmoaaGreatDoorCN
set_option linter.unusedVariables false
set_option linter.unusedSimpArgs false
noncomputable section
namespace Fi.S
open Go Fi
set_option maxHeartbeats 8000000
section
theorem jV (av n:Nat)(es:List D)(h:n=es.length):ah.view av 6 0 n (.row av 6 es)=some es:=by
 subst h;simp[ah.view]
section put
variable (es:List D) (e:fV) (c:Rat)
end put
theorem tk (A:List D)(x:D):List.take (A.length+1) (A++[x])=A++[x]:=by rw[show A.length+1=(A++[x]).length by simp,Qk0]
theorem hv1 (av:Nat)(A:List D)(x:D):ah.view av 6 0 (A.length+1) (.row av 6 (A++[x]))=some (A++[x]):=jV _ _ _ aC
theorem hv2 (av:Nat)(A:List D)(x y:D)(B':List D):ah.view av 6 0 (A.length+1+(B'.length+1)) (.row av 6 (A++x::y::B'))=some (A++x::y::B'):=jV _ _ _ (by simp;omega)
end
def bW (p:aS)(b:List aS):List aS:=b.map fun q=>(dz p.1 q.1,p.2*q.2)
def bD (a b:List aS):List aS:=a.flatMap fun p=>bW p b
theorem mI (a b:List aS):((bD a b).filter fun p=>bI p.1)=dK a b:=by
 unfold bD dK;rw[List.filter_flatMap];rfl
def bM (x:Rat):List aS:=if x=0 then [] else [((0,0,0),x)]
theorem jK {S:Nat}{x:Rat}(h:qz x<=S):PV S (bM x):=by
 unfold bM;split
 ·exact PV.nil S
 ·rename_i hx;refine⟨Qo0.2 ⟨fun _ h=>(by cases h),List.Pairwise.nil⟩,fun p hp => ?_,fun p hp => ?_,fun p hp => ?_⟩<;>(rw[Qx0]at hp;subst hp)
  ·exact hx
  ·exact(by decide:bI (0,0,0)=true)
  ·exact h
def iG (i:Nat):fV:=if i=0 then(1,0,0) else if i=1 then(0,1,0) else(0,0,1)
theorem VO (v n:Int)(hn:0<n):(v.tmod n<0->v.tmod n+n=v % n)/\(¬ v.tmod n<0->v.tmod n=v % n):=by
 have h:=Int.tmod_eq_emod (a:=v) (b:=n);have h1:=Qo2 v (show n≠0 by omega);have h2:=Qm1 v hn;have h3:(n.natAbs:Int)=n:=ae;constructor
 ·intro hlt;rw[h]at hlt ⊢;split at hlt
  ·omega
  ·rename_i hh;rw[if_neg hh];omega
 ·intro hlt;rw[h]at hlt ⊢;split at hlt
  ·rename_i hh;rw[if_pos hh];omega
  ·rename_i hh;rw[if_neg hh];exfalso;have:v % n≠0:=fun h0=>hh (.inr (Int.dvd_of_emod_eq_zero h0))
   omega
theorem iR (v n:Int)(hv:ib v)(hn:0<n)(hn2:n<=1000000):Ca E0 46 [dI v,dI n] (dI (v % n),none):=by
 obtain⟨f1,f2⟩:=VO v n hn;have h1:=Qo2 v (show n≠0 by omega);have h2:=Qm1 v hn;have n0:n≠0:=ae;have n1:n≠-1:=ae;have n0':(n==0)=false:=by simpa using n0
 refine Ca.bQ (n:=60) ?_;rw[aA rfl (aO 46 f46:E0.fn _=_) rfl]
 by_cases h:v.tmod n<0
 ·have h3:=f1 h;have w0:ak .i64 (v.tmod n)=v.tmod n:=wrap_i64 ae;have w1:ak .i64 (v.tmod n+n)=v % n:=by rw[h3];exact wrap_i64 ae
  clear f1 f2 h3 h1 h2;simp[f46,n0,n0',w0,w1,h]
 ·have h3:=f2 h;have w0:ak .i64 (v.tmod n)=v.tmod n:=by rw[h3];exact wrap_i64 ae
  clear f1 f2 h1 h2;simp[f46,n0,n0',w0,h];exact h3
def u7 (v:Int):Rat:=sw (v % 13-6) (1+(v.tdiv 13) % 3)
end Fi.S
