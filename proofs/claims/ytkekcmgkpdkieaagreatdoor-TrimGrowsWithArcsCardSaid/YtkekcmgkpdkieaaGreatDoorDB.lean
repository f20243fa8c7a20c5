import Derived.Test.YtkekcmgkpdkieaaGreatDoorDA
import Derived.Test.YtkekcmgkpdkieaaGreatDoorCX
set_option linter.unusedVariables false
set_option linter.unusedSimpArgs false
noncomputable section
noncomputable section
namespace Fi.S
open Go Fi
set_option maxHeartbeats 8000000
set_option maxRecDepth 10000
variable {α:Type} {e:α->W}
end Fi.S
noncomputable section
namespace Fi.S
open Go Fi
set_option maxHeartbeats 8000000
set_option maxRecDepth 10000
section agc
variable {α:Type} {e:α->W}
end agc
section vals
variable {kk:Int} {ps:List Int}
def Wt (kk:Int)(ps:List Int)(x:List Sv):Prop:=gU 3 20 (dz kk ps) x/\uG 6 640 x
theorem Wt.gd {x:List Sv}(h:Wt kk ps x):vM (dz kk ps) x:=⟨3,20,by omega,by omega,h.1⟩
end vals
end Fi.S
noncomputable section
namespace Fi.S
open Go Fi
set_option maxHeartbeats 8000000
set_option maxRecDepth 10000
theorem Q3 {kk:Int}{ps:List Int}(hv:aJ kk ps=true)(v:Int):gU 3 20 (dz kk ps) (rR kk ps v):=by
 have h:=Fv hv v;have hf:=Dy hv v;refine⟨h.1,fun i k x hk hx => ?_⟩;have g1:=h.2 i k x hk hx;have g2:=Nb (T:=3) (aQ hv k (Qa2 hk)) g1 (hf x (Qa2 hx)) (by omega) (by omega) (by omega);cases x with
 | q a=>exact⟨g2.1,g2.2⟩
 | c i n=>exact g2
 | s u=>exact g2
 | p l=>exact⟨g2.1,g2.2.1,Qd0 g1.2.2 (by omega)⟩
def y7 (kk:Int)(ps:List Int)(l:List Int)(i one:Nat):List Sv :=
 match l[i]? with
 | some v=>rR kk ps v
 | none=>if i=one then Fw kk ps else aW kk ps
theorem Wh {kk:Int}{ps:List Int}(hv:aJ kk ps=true)(l:List Int)(hl:∀ x ∈ l,d_ x)(i one:Nat):Ca E1 1075 [.d (bA kk ps),.d (.s 1 (LK .i64 l)),.d (.v (.int .i64 i)),.d (.v (.int .i64 one))] (.d (bS kk (y7 kk ps l i one)).d,none):=by
 have n1:(LK .i64 l).length=l.length:=by simp[LK]
 have i0:(0:Int)<=(i:Int):=by omega
 unfold y7;cases h:l[i]? with
 | some v =>
  have hi:=(bD h)
  have e1:(LK .i64 l)[i]?=some (.v (.int .i64 v)):=by simp[LK,h]
  have hic:(i:Int)<(l.length:Int):=by omega
  obtain⟨N,t⟩:=(JM hv v (hl v (Qa2 h))).get;show Ca E1 1075 _ (.d (bS kk (rR kk ps v)).d,none);generalize bS kk (rR kk ps v)=w at*;refine Ca.bO (n:=N+100) ?_;rw[av rfl (k1075:E1.fn _=_) rfl];obtain⟨ws,l1,l2,c,b,u,p,q,ew⟩:=w.aN;rw[ew]at t ⊢;unfold bA wD at*;generalize LK .i64 ps=l9,LK .i64 l=l8 at*;have i1:=idx e1;simp -implicitDefEqProofs[f1075,t,n1,e1,i1,hi,hic,i0]
 | none =>
  have hi:l.length<=i:=by simpa using h
  have hic:¬ (i:Int)<(l.length:Int):=by omega
  show Ca E1 1075 _ (.d (bS kk (if i=one then Fw kk ps else aW kk ps)).d,none)
  by_cases ho:i=one
  ·rw[if_pos ho];subst ho;obtain⟨N,t⟩:=(Y9 hv).2.get;rw[show(dz kk ps).map oq=Fw kk ps from rfl]at t;generalize bS kk (Fw kk ps)=w at*;refine Ca.bO (n:=N+100) ?_;rw[av rfl (k1075:E1.fn _=_) rfl];obtain⟨ws,l1,l2,c,b,u,p,q,ew⟩:=w.aN;rw[ew]at t ⊢;unfold bA wD at*;generalize LK .i64 ps=l9,LK .i64 l=l8 at*;simp -implicitDefEqProofs[f1075,t,n1,hic]
  ·rw[if_neg ho];obtain⟨N,t⟩:=(AX hv).get;rw[show(dz kk ps).map dF=aW kk ps from rfl]at t;have hne:((i:Int)==(one:Int))=false:=by simp;omega
   generalize bS kk (aW kk ps)=w at*;refine Ca.bO (n:=N+100) ?_;rw[av rfl (k1075:E1.fn _=_) rfl];obtain⟨ws,l1,l2,c,b,u,p,q,ew⟩:=w.aN;rw[ew]at t ⊢;unfold bA wD at*;generalize LK .i64 ps=l9,LK .i64 l=l8 at*;simp -implicitDefEqProofs[f1075,t,n1,hic,hne]
theorem Wi {kk:Int}{ps:List Int}(hv:aJ kk ps=true)(l:List Int)(i one:Nat):Wt kk ps (y7 kk ps l i one):=by
 unfold y7;cases l[i]? with
 | some v=>exact⟨Q3 hv v,(Dy hv v).mono (by omega)⟩
 | none =>
  show Wt kk ps (if i=one then Fw kk ps else aW kk ps);split
  ·exact⟨JI (by omega) (by omega) (aQ hv),ZJ (aQ hv) (by omega)⟩
  ·exact⟨kr (by omega) (aQ hv),oD (aQ hv) _ _⟩
end Fi.S
noncomputable section
namespace Fi.S
open Go Fi
set_option maxHeartbeats 8000000
set_option maxRecDepth 10000
def ZC (st:Int)(li lf la:List Int):D:=.a [.v (.int .i64 st),.s 1 (LK .i64 li),.s 1 (LK .i64 lf),.s 1 (LK .i64 la),.v (.bool false)]
def bP (st:Int)(li lf la:List Int):ae:=.box [.d (.v (.int .i64 st)),.d (.s 1 (LK .i64 li)),.d (.s 1 (LK .i64 lf)),.d (.s 1 (LK .i64 la)),.d (.v (.bool false))]
def dD (kk:Int)(ps:List Int):ae:=.box [.d (.v (.int .i64 kk)),.d (.s 1 (LK .i64 ps))]
def Hq:ae:=.box [.d (.v (.int .i64 0)),.d (.n 1),.d (.v (.int .i64 0)),.d (.v (.int .i64 0)),.d (.n 8),.d (.n 8),.d (.n 11)]
def Nc (kk:Int)(ps:List Int)(sy:Int)(n:Nat)(x y w:FV):ae:=.box [.d (.v (.int .i64 kk)),.d (.s 1 (LK .i64 ps)),.d (.v (.int .i64 sy)),.d (.v (.int .i64 n)),x,y,w]
def Q4 (sy:Int)(n:Nat)(L:List ae)(j:Nat)(t:FV):St :=
 (st0 [.u,.u,.d (.v (.int .i64 sy)),.u,.r (.loc 0) 0,.r (.loc 1) 0,.r (.loc 2) 0,.d (.v (.int .i64 n)),.r (.loc 3) 0,.d (.v (.int .i64 j)),.u,.u,t,.u,.u] L)
def cO:aG:=f1028.body.r.r.r.l.r.bl.lp
def mH (M R:ae)(kk:Int)(ps:List Int)(sy:Int)(n:Nat)(is fs:List D):List ae :=
 if is.length=0 then [M,R,Hq,Nc kk ps sy n (.d (.n 8)) (.d (.n 8)) (.d (.n 11))]
 else [M,R,Hq,Nc kk ps sy n (.ls (.loc 4) (is.length-1) 8 0 is.length) (.ls (.loc 5) (is.length-1) 8 0 is.length) (.d (.n 11)),.row (is.length-1) 8 is,.row (is.length-1) 8 fs]
theorem Wj (st:Int)(li lf la:List Int)(kk:Int)(ps:List Int)(sy:Int)(n j:Nat)(hj:j<n)(hn:n<=4)(is fs:List D)(hi:is.length=j)(hf:fs.length=j)(w v:W)
  (h1:Ca E1 1075 [.d (bA kk ps),.d (.s 1 (LK .i64 li)),.d (.v (.int .i64 j)),.d (.v (.int .i64 0))] (.d w.d,none))
  (h2:Ca E1 1075 [.d (bA kk ps),.d (.s 1 (LK .i64 lf)),.d (.v (.int .i64 j)),.d (.v (.int .i64 ((n:Int)-1)))] (.d v.d,none)) :
  Ex E1 cO (Q4 sy n (mH (bP st li lf la) (dD kk ps) kk ps sy n is fs) j .u) (.norm,Q4 sy n (mH (bP st li lf la) (dD kk ps) kk ps sy n (is++[w.d]) (fs++[v.d])) (j+1) .u):=by
 obtain⟨K,hK,t1,t2⟩:=(h1.j h2.any).at 0;have hjn:(j:Int)<(n:Int):=by omega
 have hw:ah .i64 ((j:Int)+1)=(j:Int)+1:=wrap_i64 (by omega);have hw2:ah .i64 ((n:Int)-1)=(n:Int)-1:=wrap_i64 (by omega);have hj1:((j+1:Nat):Int)=(j:Int)+1:=by omega
 have hl1:(is++[w.d]).length=j+1:=by simp[hi]
 refine Ex.of (n:=K+300) ?_;obtain⟨ws,l1,l2,c,b,u,p,q,ew⟩:=w.aN;obtain⟨vs,k1,k2,c',b',u',p',q',ev⟩:=v.aN;unfold Q4 mH;rw[hl1,if_neg (show ¬ j+1=0 by omega),hi,hj1,Qy2];rw[ew]at t1 ⊢;rw[ev]at t2 ⊢;clear h1 h2 ew ev;unfold bP dD Hq Nc bA wD at*;generalize LK .i64 ps=l9,LK .i64 li=l8,LK .i64 lf=l7,LK .i64 la=l6 at*;cases j with
 | zero =>
  have e1:is=[]:=Qz0.1 hi;have e2:fs=[]:=Qz0.1 hf;subst e1 e2;have z0:((0:Nat):Int)=0:=rfl;rw[z0]at t1 t2 hw ⊢;rw[if_pos rfl];simp (maxSteps:=400000) -implicitDefEqProofs[cO,f1028,t1,t2,hw,hw2,hj,hjn,MQ,most]
 | succ k =>
  have hk:((k+1:Nat):Int)=(k:Int)+1:=by omega
  rw[if_neg (show ¬ k+1=0 by omega),Qy2];rw[hk]at t1 t2 hw hjn ⊢;have ZE:is.take (k+1)=is:=Qe2 (by omega);have ZG:fs.take (k+1)=fs:=Qe2 (by omega);have m1:(k+1+1)*128<=1099511627776:=by omega
  have m2:k+1+1<=1099511627776:=by omega
  simp (maxSteps:=400000) -implicitDefEqProofs[cO,f1028,t1,t2,hw,hw2,hj,hjn,hi,hf,ZE,ZG,most,m1,m2]
theorem ZO (st:Int)(li lf la:List Int)(kk:Int)(ps:List Int)(sy:Int)(n:Nat)(hn:0<n)(is fs:List D)(hi:is.length=n) :
  Ex E1 cO (Q4 sy n (mH (bP st li lf la) (dD kk ps) kk ps sy n is fs) n .u) (.exit 0,Q4 sy n (mH (bP st li lf la) (dD kk ps) kk ps sy n is fs) n (.d (.v (.bool false)))):=by
 refine Ex.of (n:=100) ?_;unfold Q4 mH;rw[hi,if_neg (by omega)];unfold bP dD Hq Nc;generalize LK .i64 ps=l9,LK .i64 li=l8,LK .i64 lf=l7,LK .i64 la=l6 at*;simp (maxSteps:=400000) -implicitDefEqProofs[cO,f1028]
def Q5 (sy:Int)(n:Nat)(L:List ae)(j:Nat)(t:FV):St :=
 (st0 [.u,.u,.d (.v (.int .i64 sy)),.u,.r (.loc 0) 0,.r (.loc 1) 0,.r (.loc 2) 0,.d (.v (.int .i64 n)),.r (.loc 3) 0,.u,.d (.v (.int .i64 (4*j))),.u,.u,t,.u] L)
def Mv:aG:=f1028.body.r.r.r.r.l.r.bl.lp
def mA (M R:ae)(kk:Int)(ps:List Int)(sy:Int)(n:Nat)(is fs as':List D):List ae :=
 if as'.length=0 then [M,R,Hq,Nc kk ps sy n (.ls (.loc 4) (n-1) 8 0 n) (.ls (.loc 5) (n-1) 8 0 n) (.d (.n 11)),.row (n-1) 8 is,.row (n-1) 8 fs]
 else [M,R,Hq,Nc kk ps sy n (.ls (.loc 4) (n-1) 8 0 n) (.ls (.loc 5) (n-1) 8 0 n) (.ls (.loc 6) (as'.length-1) 11 0 as'.length),.row (n-1) 8 is,.row (n-1) 8 fs,.row (as'.length-1) 11 as']
variable {α:Type} {e:α->W}
theorem Wl (st:Int)(li lf la:List Int)(kk:Int)(ps:List Int)(sy:Int)(n j:Nat)(hn:0<n/\n<=4)(hsy:1<=sy/\sy<=32)(is fs as':List D)(ha:as'.length=j)(hj:j<10)(v0 v1 v2 v3:Int) 
  (g0:la[4*j]?=some v0) (g1:la[4*j+1]?=some v1) (g2:la[4*j+2]?=some v2) (g3:la[4*j+3]?=some v3) (x:α)
  (h0:Ca E1 46 [.d (.v (.int .i64 v0)),.d (.v (.int .i64 n))] (.d (.v (.int .i64 (v0 % n))),none)) (h1:Ca E1 46 [.d (.v (.int .i64 v1)),.d (.v (.int .i64 sy))] (.d (.v (.int .i64 (v1 % sy))),none))
  (h2:Ca E1 46 [.d (.v (.int .i64 v2)),.d (.v (.int .i64 n))] (.d (.v (.int .i64 (v2 % n))),none)) (h3:Ca E1 16 [.d (bA kk ps),.d (.v (.int .i64 v3))] (.d (e x).d,none)) :
  Ex E1 Mv (Q5 sy n (mA (bP st li lf la) (dD kk ps) kk ps sy n is fs as') j .u) (.norm,Q5 sy n (mA (bP st li lf la) (dD kk ps) kk ps sy n is fs (as'++[Ar.d e ⟨v0 % n,1+v1 % sy,v2 % n,x⟩])) (j+1) .u):=by
 obtain⟨K,hK,t0,t1,t2,t3⟩:=(h0.j (h1.j (h2.j h3.any))).at 0;have q3:=(bD g3)
 have hlen:(LK .i64 la).length=la.length:=by simp[LK]
 have e0:(LK .i64 la)[4*j]?=some (.v (.int .i64 v0)):=by simp[LK,g0]
 have e1:(LK .i64 la)[4*j+1]?=some (.v (.int .i64 v1)):=by simp[LK,g1]
 have e2:(LK .i64 la)[4*j+2]?=some (.v (.int .i64 v2)):=by simp[LK,g2]
 have e3:(LK .i64 la)[4*j+3]?=some (.v (.int .i64 v3)):=by simp[LK,g3]
 have r1:=Qk2 v1 (show sy≠0 by omega);have r2:=Qj0 v1 (show 0<sy by omega);have hw1:ah .i64 (1+v1 % sy)=1+v1 % sy:=wrap_i64 (by omega);have hl1:(as'++[Ar.d e ⟨v0 % n,1+v1 % sy,v2 % n,x⟩]).length=j+1:=by simp[ha]
 have u1:((4*j+1:Nat):Int)=4*(j:Int)+1:=by omega
 have c4:4*((j+1:Nat):Int)=4*(j:Int)+4:=by omega
 refine Ex.of (n:=K+400) ?_;obtain⟨s,a1,a2,ac,ab,au,ap,aq,ew,ea⟩:=Ar.jD e (⟨v0 % n,1+v1 % sy,v2 % n,x⟩:Ar α);simp only at ew;unfold Q5 mA;rw[hl1,if_neg (show ¬ j+1=0 by omega),ha,c4,Qy2,ea];rw[ew]at t3;clear h0 h1 h2 h3 ew ea hl1;unfold bP dD Hq Nc bA wD yO at*;simp only;generalize LK .i64 ps=l9,LK .i64 li=l8,LK .i64 lf=l7,LK .i64 la=l6,v1 % sy=w1 at*;generalize v0 % (n:Int)=w0 at*;generalize v2 % (n:Int)=w2 at*;have p0:4*j<la.length:=by omega
 have p1:4*j+1<la.length:=by omega
 have p2:4*j+2<la.length:=by omega
 obtain⟨k,hk⟩:∃ k:Nat,k=4*j:=⟨_,rfl⟩
 have ZH:4*(j:Int)=(k:Int):=by omega
 have alA:k<=36:=by omega
 have hkl:k+3<la.length:=by omega
 rw[<-hk]at e0 e1 e2 e3 p0 p1 p2 q3;rw[ZH];have i0:=idx e0;have i1:=idx e1;have i2:=idx e2;have i3:=idx e3;have s1:ah .i64 ((k:Int)+1)=(k:Int)+1:=wrap_i64 (by omega);have s2:ah .i64 ((k:Int)+2)=(k:Int)+2:=wrap_i64 (by omega);have s3:ah .i64 ((k:Int)+3)=(k:Int)+3:=wrap_i64 (by omega);have s4:ah .i64 ((k:Int)+4)=(k:Int)+4:=wrap_i64 (by omega);have b0:(0:Int)<=(k:Int):=by omega
 have b1:(0:Int)<=(k:Int)+1:=by omega
 have b2:(0:Int)<=(k:Int)+2:=by omega
 have b3:(0:Int)<=(k:Int)+3:=by omega
 have k0:(k:Int)<(la.length:Int):=by omega
 have k1:(k:Int)+1<(la.length:Int):=by omega
 have k2:(k:Int)+2<(la.length:Int):=by omega
 have k3:(k:Int)+3<(la.length:Int):=by omega
 have k4:(k:Int)<40:=by omega
 have d1:((k:Int)+1).toNat=k+1:=by omega
 have d2:((k:Int)+2).toNat=k+2:=by omega
 have d3:((k:Int)+3).toNat=k+3:=by omega
 cases j with
 | zero =>
  have e1:as'=[]:=Qz0.1 ha;subst e1;rw[if_pos rfl];simp (maxSteps:=800000) -implicitDefEqProofs[Mv,f1028,t0,t1,t2,t3,hw1,hlen,e0,e1,e2,e3,i0,i1,i2,i3,p0,p1,p2,q3,s1,s2,s3,s4,b0,b1,b2,b3,k0,k1,k2,k3,k4,d1,d2,d3,most]
 | succ m =>
  rw[if_neg (show ¬ m+1=0 by omega),Qy2];have tk:as'.take (m+1)=as':=Qe2 (by omega);have m1:(m+1+1)*152<=1099511627776:=by omega
  have m2:m+1+1<=1099511627776:=by omega
  simp (maxSteps:=800000) -implicitDefEqProofs[Mv,f1028,t0,t1,t2,t3,hw1,hlen,e0,e1,e2,e3,i0,i1,i2,i3,p0,p1,p2,q3,s1,s2,s3,s4,b0,b1,b2,b3,k0,k1,k2,k3,k4,d1,d2,d3,ha,tk,most,m1,m2]
theorem ZP (st:Int)(li lf la:List Int)(kk:Int)(ps:List Int)(sy:Int)(n j:Nat)(is fs as':List D)(hj:j<=10)(h:la.length<4*j+4\/j=10) :
  Ex E1 Mv (Q5 sy n (mA (bP st li lf la) (dD kk ps) kk ps sy n is fs as') j .u) (.exit 2,Q5 sy n (mA (bP st li lf la) (dD kk ps) kk ps sy n is fs as') j (.d (.v (.bool false)))):=by
 have hlen:(LK .i64 la).length=la.length:=by simp[LK]
 have s3:ah .i64 (4*(j:Int)+3)=4*(j:Int)+3:=wrap_i64 (by omega);refine Ex.of (n:=200) ?_;unfold Q5 mA;unfold bP dD Hq Nc;generalize LK .i64 ps=l9,LK .i64 li=l8,LK .i64 lf=l7,LK .i64 la=l6 at*
 by_cases h1:4*(j:Int)+3<(la.length:Int)
 ·have h2:¬ 4*(j:Int)<40:=by omega
  split<;>simp (maxSteps:=400000) -implicitDefEqProofs[Mv,f1028,hlen,s3,h1,h2]
 ·split<;>simp (maxSteps:=400000) -implicitDefEqProofs[Mv,f1028,hlen,s3,h1]
def stM (st:Int):Nat:=(1+ah .i64 (st-1) % 4).toNat
theorem O3 (st:Int):(stM st:Int)=1+ah .i64 (st-1) % 4:=by
 unfold stM;have h1:=Qk2 (ah .i64 (st-1)) (show(4:Int)≠0 by omega);omega
theorem Wm (st:Int):0<stM st/\stM st<=4:=by
 have h:=O3 st;have h1:=Qk2 (ah .i64 (st-1)) (show(4:Int)≠0 by omega);have h2:=Qj0 (ah .i64 (st-1)) (show(0:Int)<4 by omega);omega
def Ak (kk:Int)(ps:List Int)(l:List Int)(one n:Nat):List (List Sv):=(List.range n).map fun i=>y7 kk ps l i one
def age (kk:Int)(ps:List Int)(sy:Int)(n:Nat)(la:List Int)(j:Nat):Ar (List Sv):=⟨la.getD (4*j) 0 % n,1+la.getD (4*j+1) 0 % sy,la.getD (4*j+2) 0 % n,rR kk ps (la.getD (4*j+3) 0)⟩
def DI (la:List Int):Nat:=min 10 (la.length / 4)
def xI (kk:Int)(ps:List Int)(sy:Int)(n:Nat)(la:List Int):List (Ar (List Sv)):=(List.range (DI la)).map (age kk ps sy n la)
theorem Ke (kk:Int)(ps l:List Int)(one n:Nat):(Ak kk ps l one n).length=n:=by simp[Ak]
theorem Q6 (kk:Int)(ps:List Int)(sy:Int)(n:Nat)(la:List Int):(xI kk ps sy n la).length<=10:=by simp[xI,DI];omega
theorem ZQ {kk:Int}{ps:List Int}(hv:aJ kk ps=true)(st:Int)(li lf la:List Int)(sy:Int)(hsy:1<=sy/\sy<=32)(hi:∀ x ∈ li,d_ x)(hf:∀ x ∈ lf,d_ x)(ha:∀ x ∈ la,d_ x) :
  Ca E1 1028 [.d (ZC st li lf la),.d (bA kk ps),.d (.v (.int .i64 sy)),.d (.v (.int .i64 4))]
   (.d (uP kk ps sy (stM st) ((Ak kk ps li 0 (stM st)).map (bS kk)) ((Ak kk ps lf (stM st-1) (stM st)).map (bS kk)) (bS kk) (xI kk ps sy (stM st) la)),none):=by
 obtain⟨hn0,Kl⟩:=Wm st;have hni:=O3 st;have cm:=Ca.fP (iW (ah .i64 (st-1)) 4 (Vl _) (by omega) (by omega));have hw:ah .i64 (1+ah .i64 (st-1) % 4)=1+ah .i64 (st-1) % 4:=wrap_i64 (by omega);generalize hmm:ah .i64 (st-1) % 4=mm at*;generalize stM st=n at*;have e1:((Ak kk ps li 0 n).map (bS kk)).map W.d=(List.range n).map fun i=>(bS kk (y7 kk ps li i 0)).d:=by simp[Ak]
 have e2:((Ak kk ps lf (n-1) n).map (bS kk)).map W.d=(List.range n).map fun i=>(bS kk (y7 kk ps lf i (n-1))).d:=by simp[Ak]
 unfold uP;rw[e1,e2]
 -- the ends
 obtain⟨r1,hl1,hr1⟩:=Ex.fold (E:=E1) (b:=cO) (List.range n) (fun(u:Unit) _=>u) () (fun j _ s=>s=Q4 sy n (mH (bP st li lf la) (dD kk ps) kk ps sy n ((List.range j).map fun i=>(bS kk (y7 kk ps li i 0)).d) ((List.range j).map fun i=>(bS kk (y7 kk ps lf i (n-1))).d)) j .u)
  (fun _ q=>q=(.exit 0,Q4 sy n (mH (bP st li lf la) (dD kk ps) kk ps sy n ((List.range n).map fun i=>(bS kk (y7 kk ps li i 0)).d) ((List.range n).map fun i=>(bS kk (y7 kk ps lf i (n-1))).d)) n (.d (.v (.bool false)))))
  (fun j a s hj hs=>by
   have hjn:j<n:=by simpa using(bD hj)
   subst hs;refine⟨_,?_,rfl⟩;rw[X2,Qm1,Qm1];have c2:=Wh hv lf hf j (n-1);rw[show(((n-1:Nat)):Int)=(n:Int)-1 by omega]at c2;exact Wj st li lf la kk ps sy n j hjn Kl _ _ (by simp) (by simp) _ _ (Wh hv li hi j 0) c2)
  (fun s hs=>by
   subst hs;simp only[Xv2];exact⟨_,ZO st li lf la kk ps sy n hn0 _ _ (by simp),by simp,rfl⟩)
  (st:=Q4 sy n (mH (bP st li lf la) (dD kk ps) kk ps sy n [] []) 0 .u) rfl
 subst hr1;generalize hIs:((List.range n).map fun i=>(bS kk (y7 kk ps li i 0)).d)=is at*;generalize QY:((List.range n).map fun i=>(bS kk (y7 kk ps lf i (n-1))).d)=fs at*;have hil:is.length=n:=by rw[<-hIs];simp
 have hfl:fs.length=n:=by rw[<-QY];simp
 clear hIs QY e1 e2
 -- the ak
 obtain⟨r2,hl2,hr2⟩:=Ex.fold (E:=E1) (b:=Mv) (List.range (DI la)) (fun(u:Unit) _=>u) () (fun j _ s=>s=Q5 sy n (mA (bP st li lf la) (dD kk ps) kk ps sy n is fs (((List.range j).map (age kk ps sy n la)).map (Ar.d (bS kk)))) j .u)
  (fun _ q=>q=(.exit 2,Q5 sy n (mA (bP st li lf la) (dD kk ps) kk ps sy n is fs ((xI kk ps sy n la).map (Ar.d (bS kk)))) (DI la) (.d (.v (.bool false)))))
  (fun j a s hj hs=>by
   have hjn:j<DI la:=by simpa using(bD hj)
   have ai1:=hjn;unfold DI at ai1;subst hs;refine⟨_,?_,rfl⟩;rw[X2,Qm1,Qm1];have g:∀ k,k<4->la[4*j+k]?=some (la.getD (4*j+k) 0):=fun k hk=>by
    rw[Qq2,Qa1 (by omega)];rfl
   have gr:∀ k,k<4->d_ (la.getD (4*j+k) 0):=fun k hk=>ha _ (Qa2 (g k hk))
   exact Wl (e:=bS kk) st li lf la kk ps sy n j ⟨hn0,Kl⟩ hsy is fs _ (by simp) (by omega) _ _ _ _ (g 0 (by omega)) (g 1 (by omega)) (g 2 (by omega)) (g 3 (by omega)) _
    (Ca.fP (iW _ n (gr 0 (by omega)) (by omega) (by omega))) (Ca.fP (iW _ sy (gr 1 (by omega)) (by omega) (by omega))) (Ca.fP (iW _ n (gr 2 (by omega)) (by omega) (by omega))) (JM hv _ (gr 3 (by omega))))
  (fun s hs=>by
   subst hs;simp only[Xv2];exact⟨_,ZP st li lf la kk ps sy n (DI la) is fs _ (by unfold DI;omega) (by unfold DI;omega),by simp,rfl⟩)
  (st:=Q5 sy n (mA (bP st li lf la) (dD kk ps) kk ps sy n is fs []) 0 .u) rfl
 subst hr2;have hal:((xI kk ps sy n la).map (Ar.d (bS kk))).length=DI la:=by simp[xI]
 generalize (xI kk ps sy n la).map (Ar.d (bS kk))=as' at*;obtain⟨N,t⟩:=cm.get;have hA:Ex E1 f1028.body.l (st0 [.d (ZC st li lf la),.d (bA kk ps),.d (.v (.int .i64 sy)),.d (.v (.int .i64 4)),.u,.u,.u,.u,.u,.u,.u,.u,.u,.u,.u] [])
   (.norm,(st0 [.u,.u,.d (.v (.int .i64 sy)),.d (.v (.int .i64 4)),.r (.loc 0) 0,.r (.loc 1) 0,.r (.loc 2) 0,.u,.u,.u,.u,.u,.u,.u,.u] [bP st li lf la,dD kk ps,Hq])):=by
  refine Ex.of (n:=60) ?_;unfold ZC bP bA dD Hq;generalize LK .i64 ps=l9,LK .i64 li=l8,LK .i64 lf=l7,LK .i64 la=l6 at*;simp -implicitDefEqProofs[f1028]
 have hB:Ex E1 f1028.body.r.l (st0 [.u,.u,.d (.v (.int .i64 sy)),.d (.v (.int .i64 4)),.r (.loc 0) 0,.r (.loc 1) 0,.r (.loc 2) 0,.u,.u,.u,.u,.u,.u,.u,.u] [bP st li lf la,dD kk ps,Hq])
   (.norm,(st0 [.u,.u,.d (.v (.int .i64 sy)),.u,.r (.loc 0) 0,.r (.loc 1) 0,.r (.loc 2) 0,.d (.v (.int .i64 n)),.u,.u,.u,.u,.u,.u,.u] [bP st li lf la,dD kk ps,Hq])):=by
  refine Ex.of (n:=N+60) ?_;rw[hni];unfold bP dD Hq;generalize LK .i64 ps=l9,LK .i64 li=l8,LK .i64 lf=l7,LK .i64 la=l6 at*;simp -implicitDefEqProofs[f1028,t,hw]
 have hC:Ex E1 f1028.body.r.r.l (st0 [.u,.u,.d (.v (.int .i64 sy)),.u,.r (.loc 0) 0,.r (.loc 1) 0,.r (.loc 2) 0,.d (.v (.int .i64 n)),.u,.u,.u,.u,.u,.u,.u] [bP st li lf la,dD kk ps,Hq])
   (.norm,(st0 [.u,.u,.d (.v (.int .i64 sy)),.u,.r (.loc 0) 0,.r (.loc 1) 0,.r (.loc 2) 0,.d (.v (.int .i64 n)),.r (.loc 3) 0,.u,.u,.u,.u,.u,.u] [bP st li lf la,dD kk ps,Hq,Nc kk ps sy n (.d (.n 8)) (.d (.n 8)) (.d (.n 11))])):=by
  refine Ex.of (n:=100) ?_;unfold bP dD Hq Nc;generalize LK .i64 ps=l9,LK .i64 li=l8,LK .i64 lf=l7,LK .i64 la=l6 at*;simp -implicitDefEqProofs[f1028]
 have hD:Ex E1 f1028.body.r.r.r.l.l (st0 [.u,.u,.d (.v (.int .i64 sy)),.u,.r (.loc 0) 0,.r (.loc 1) 0,.r (.loc 2) 0,.d (.v (.int .i64 n)),.r (.loc 3) 0,.u,.u,.u,.u,.u,.u] [bP st li lf la,dD kk ps,Hq,Nc kk ps sy n (.d (.n 8)) (.d (.n 8)) (.d (.n 11))])
   (.norm,Q4 sy n (mH (bP st li lf la) (dD kk ps) kk ps sy n [] []) 0 .u):=by
  refine Ex.of (n:=60) ?_;unfold Q4 mH;simp -implicitDefEqProofs[f1028]
 have hE:Ex E1 f1028.body.r.r.r.r.l.l (Q4 sy n (mH (bP st li lf la) (dD kk ps) kk ps sy n is fs) n (.d (.v (.bool false))))
   (.norm,Q5 sy n (mA (bP st li lf la) (dD kk ps) kk ps sy n is fs []) 0 .u):=by
  refine Ex.of (n:=60) ?_;unfold Q4 Q5 mH mA;rw[hil,if_neg (by omega),if_pos (show([]:List D).length=0 from rfl)];simp -implicitDefEqProofs[f1028]
 refine Ca.body (o:=.ret) (st1:=(st0 [.u,.u,.u,.u,.u,.u,.r (.loc 2) 0,.u,.u,.u,.u,.u,.u,.u,.u] ((mA (bP st li lf la) (dD kk ps) kk ps sy n is fs as').set 2 (Nc kk ps sy n (.ls (.loc 4) (n-1) 8 0 n) (.ls (.loc 5) (n-1) 8 0 n) (if as'.length=0 then .d (.n 11) else .ls (.loc 6) (as'.length-1) 11 0 as'.length))))) rfl (k1028:E1.fn _=_) rfl ?_ (by intro id h;cases h) ?_
 ·have hF : Ex E1 f1028.body.r.r.r.r.r (Q5 sy n (mA (bP st li lf la) (dD kk ps) kk ps sy n is fs as') (DI la) (.d (.v (.bool false))))
       (.ret, (st0 [.u, .u, .u, .u, .u, .u, .r (.loc 2) 0, .u, .u, .u, .u, .u, .u, .u, .u] ((mA (bP st li lf la) (dD kk ps) kk ps sy n is fs as').set 2 (Nc kk ps sy n (.ls (.loc 4) (n - 1) 8 0 n) (.ls (.loc 5) (n - 1) 8 0 n) (if as'.length = 0 then .d (.n 11) else .ls (.loc 6) (as'.length - 1) 11 0 as'.length))))) := by
   refine Ex.of (n:=100) ?_;unfold Q5 mA bP dD Hq Nc;generalize LK .i64 ps=l9,LK .i64 li=l8,LK .i64 lf=l7,LK .i64 la=l6 at*
   by_cases h:as'.length=0
   ·rw[if_pos h,if_pos h];simp -implicitDefEqProofs[f1028]
   ·rw[if_neg h,if_neg h];simp -implicitDefEqProofs[f1028]
  show Ex E1 (.seq f1028.body.l (.seq f1028.body.r.l (.seq f1028.body.r.r.l (.seq (.seq f1028.body.r.r.r.l.l (.block 0 (.loop cO))) (.seq (.seq f1028.body.r.r.r.r.l.l (.block 2 (.loop Mv))) f1028.body.r.r.r.r.r))))) _ _;exact hA.seq (hB.seq (hC.seq ((hD.seq hl1.block).seq ((hE.seq hl2.block).seq hF))))
 ·have v1:ae.view (n-1) 8 0 n (.row (n-1) 8 is)=some is:=by rw[<-hil];simp[ae.view]
  have v2:ae.view (n-1) 8 0 n (.row (n-1) 8 fs)=some fs:=by rw[<-hfl];simp[ae.view]
  have v3:ae.view (as'.length-1) 11 0 as'.length (.row (as'.length-1) 11 as')=some as':=by simp[ae.view]
  unfold mA bP dD Hq Nc qW;generalize LK .i64 ps=l9,LK .i64 li=l8,LK .i64 lf=l7,LK .i64 la=l6 at*
  by_cases h:as'.length=0
  ·have h':as'=[]:=Qz0.1 h;subst h';simp -implicitDefEqProofs[f1028,v1,v2]
  ·rw[if_neg h,if_neg h];simp -implicitDefEqProofs[f1028,v1,v2,v3]
end Fi.S
noncomputable section
namespace Fi.S
open Go Fi
set_option maxHeartbeats 8000000
set_option maxRecDepth 10000
theorem ado {k:Int}(hk:single k=true){S M:Nat}{x:Sv}(hx:x.of k S M)(h:x.w=(dF k).w):x=dF k:=by
 rcases aO hk with rfl|rfl|rfl|rfl|rfl
 ·obtain⟨a,rfl,_⟩:=wX hx
  injection h with h1 h2 h3
  show Sv.q a=.q 0;rw[<-ru a,h1,h2,h3,ru]
 ·obtain⟨i,n,rfl,_⟩:=wY hx
  injection h with _ _ _ h1 h2
  show Sv.c i n=.c true 0;rw[h1,h2]
 ·obtain⟨a,rfl,_⟩:=wZ hx
  injection h with h1 h2 h3
  show Sv.q a=.q 0;rw[<-ru a,h1,h2,h3,ru]
 ·obtain⟨u,rfl,_⟩:=w9 hx
  injection h with _ _ _ _ _ h1
  show Sv.s u=.s 0;rw[h1]
 ·obtain⟨a,rfl,_⟩:=w_ hx
  injection h with _ _ _ _ _ _ h1
  have:a=[]:=Xp1.1 h1;rw[this];rfl
theorem Wn {kk:Int}{ps:List Int}(hv:aJ kk ps=true){x:List Sv}(hx:vM (dz kk ps) x)(h:Et kk ps x=true):x=aW kk ps:=by
 have he:=W.OV h;obtain⟨S,M,_,_,hx⟩:=hx;have hs:=aQ hv;have hz:gU 1 1 (dz kk ps) (aW kk ps):=kr (by omega) hs;refine ma hx.1 hz.1 (fun i k a b hk ha hb => ?_);have hb':b=dF k:=nQ hk hb;subst hb';refine ado (hs k (Qa2 hk)) (hx.2 i k a hk ha) ?_;unfold bS at he
 by_cases h6:kk=6
 ·rw[if_pos h6,if_pos h6]at he
  injection he with _ _ _ _ _ _ _ he
  have h1:(x.map Sv.w)[i]?=some a.w:=by rw[Qb2,ha];rfl
  have h2:((aW kk ps).map Sv.w)[i]?=some (dF k).w:=by rw[Qb2,hb];rfl
  rw[he,h2]at h1;exact(Q00 h1).symm
 ·rw[if_neg h6,if_neg h6]at he;have hl:x.length=1:=by rw[hx.1];unfold dz;rw[if_neg h6];rfl
  have hi:i=0:=by have:=(bD ha);omega
  subst hi;have e1:x.headD (.q 0)=a:=by
   cases x with
   | nil=>cases ha
   | cons y r=>cases ha;rfl
  have e2:(aW kk ps).headD (.q 0)=dF k:=by
   cases hq:aW kk ps with
   | nil=>rw[hq]at hb;cases hb
   | cons y r=>rw[hq]at hb;cases hb;rfl
  rw[e1,e2]at he;exact he
def GF (kk:Int)(ps:List Int)(n:Nat)(x:List Sv):Prop:=1<=n/\vM (dz kk ps) x/\uG 6 (640*n) x
theorem GF.vN {kk:Int}{ps:List Int}(hv:aJ kk ps=true){n:Nat}{x:List Sv}(h:GF kk ps n x)(hn:n<=1000):gU 3 216 (dz kk ps) x:=xH (aQ hv) h.2.1 h.2.2 (by omega) (by omega) (by omega)
theorem Wt.gf {kk:Int}{ps:List Int}{x:List Sv}(h:Wt kk ps x):GF kk ps 1 x:=⟨Qd2 _,h.gd,h.2⟩
theorem ai2 {kk:Int}{ps:List Int}(hv:aJ kk ps=true):sw kk ps (bS kk) (bL (dz kk ps)) (bS kk (aW kk ps)) (Et kk ps) (GF kk ps) 20 where
 mono n x h:=⟨by omega,h.2.1,h.2.2.mono (by omega)⟩
 zero:=Fu hv
 pz x h:=by
  have h3:=h.vN hv (by omega);have:=OD hv (by omega) (by omega) h3 (kr (M:=216) (by omega) (aQ hv));rw[Cz (S:=3) (M:=216) (by omega) (aQ hv) h3]at this;exact this
 tk x h:=xe hv (by omega) (by omega) (h.vN hv (by omega))
 p1 n x y hn hx hy:=OD hv (S:=3) (M:=216) (by omega) (by omega) (hx.vN hv (by omega)) (hy.vN hv (by omega))
 p2 n x y hn hx hy:=JO hv (S:=3) (M:=216) (by omega) (by omega) (hx.vN hv (by omega)) (hy.vN hv (by omega))
 pg n x y hn hx hy:=by
  have h1:=hx.1;refine⟨by omega,(Ka (aQ hv)).pp hx.2.1 hy.2.1,?_⟩;exact(Dw (aQ hv) hx.2.1 hy.2.1 hx.2.2 hy.2.2).mono (by omega)
 z1 n x hn hx:=(Vv hv (by omega) (hx.vN hv (by omega))).1
 z2 n x hn hx:=(Vv hv (by omega) (hx.vN hv (by omega))).2
theorem FI {kk:Int}{ps:List Int}(hv:aJ kk ps=true){S M D N T:Nat}{x:List Sv}(h:gU S M (dz kk ps) x)(hf:uG D N x)(hD:0<D)(DL:D<4294967296 ^ T)(hN:N<4294967296 ^ T):gU T M (dz kk ps) x:=by
 refine⟨h.1,fun i k x hk hx => ?_⟩;have g1:=h.2 i k x hk hx;have g2:=Nb (T:=T) (aQ hv k (Qa2 hk)) g1 (hf x (Qa2 hx)) hD DL hN;cases x with
 | q a=>exact⟨g2.1,g2.2⟩
 | c i n=>exact g2
 | s u=>exact g2
 | p l=>exact⟨g2.1,g2.2.1,g1.2.2⟩
section ak
variable {kk:Int} {ps:List Int} (hv:aJ kk ps=true)
include hv
structure FJ (kk:Int)(ps:List Int)(sy n:Nat)(a:Ar (List Sv)):Prop where
 f:0<=a.f/\a.f<n
 l:1<=a.l/\a.l<=sy
 t:0<=a.t/\a.t<n
 x:gU 9 2 (dz kk ps) a.x
 fr:uG 6 64 a.x
theorem FJ.wt {sy n:Nat}{a:Ar (List Sv)}(h:FJ kk ps sy n a):Wt kk ps a.x:=⟨(FI (T:=3) hv h.x h.fr (by omega) (by omega) (by omega)).mono (by omega) (by omega),h.fr.mono (by omega)⟩
theorem Nf (sy:Nat)(hsy:1<=sy)(n:Nat)(hn:0<n)(la:List Int):∀ a ∈ xI kk ps sy n la,FJ kk ps sy n a:=by
 intro a ha;obtain⟨j,hj,rfl⟩:=Qh2.1 ha;have r:∀ v:Int,0<=v % (n:Int)/\v % (n:Int)<(n:Int):=fun v=>⟨Qk2 v (show(n:Int)≠0 by omega),Qj0 v (show 0<(n:Int) by omega)⟩
 have r2:∀ v:Int,0<=v % (sy:Int)/\v % (sy:Int)<(sy:Int):=fun v=>⟨Qk2 v (show(sy:Int)≠0 by omega),Qj0 v (show 0<(sy:Int) by omega)⟩
 have q:=r2 (la.getD (4*j+1) 0);exact⟨r _,⟨by show 1<=1+_;omega,by show 1+_<=_;omega⟩,r _,Fv hv _,Dy hv _⟩
theorem Kh {x:List Sv}(h:Wt kk ps x):(bS kk x).OK/\cZ kk ps (bS kk x)=true:=⟨JJ hv (by omega) h.1,CJ hv h.1⟩
end ak
end Fi.S
