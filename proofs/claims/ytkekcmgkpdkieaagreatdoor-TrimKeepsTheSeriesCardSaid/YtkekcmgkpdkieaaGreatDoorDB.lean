import Derived.Test.YtkekcmgkpdkieaaGreatDoorDA
import Derived.Test.YtkekcmgkpdkieaaGreatDoorCX
set_option linter.unusedVariables false
set_option linter.unusedSimpArgs false
noncomputable section
namespace Fi.S
open Go Fi
set_option maxHeartbeats 8000000
set_option maxRecDepth 10000
variable {α:Type} {e:α->W}
end Fi.S
noncomputable section
namespace Fi.S
open Go Fi
set_option maxHeartbeats 8000000
set_option maxRecDepth 10000
section aiu
variable {α:Type} {e:α->W}
end aiu
def bN:Nat->Nat
 | 0=>640
 | j+1=>10*(20*(640*bN j))
theorem Qf {j:Nat}(h:j<=4):bN j<=bN 4:=by
 match j,h with
 | 0,_=>decide
 | 1,_=>decide
 | 2,_=>decide
 | 3,_=>decide
 | 4,_=>exact Qe1 _
theorem XF {j:Nat}(h:j<=6):6 ^ j<=46656:=Qd1 (Qu1 ae h) dw
section vals
variable {kk:Int} {ps:List Int}
def Wt (kk:Int)(ps:List Int)(x:List Sv):Prop:=iB 3 20 (dN kk ps) x/\Fs 6 640 x
theorem Wt.gd {x:List Sv}(h:Wt kk ps x):Fq (dN kk ps) x:=⟨3,20,ae,ae,h.1⟩
theorem K9 (hv:aM kk ps=true){D N M:Nat}(hD:0<D)(hD2:D<4294967296 ^ 3)(hN:N<4294967296 ^ 3)(hM:M<4294967296 ^ 3){x y:List Sv}(hx:Fq (dN kk ps) x)(fx:Fs D N x)(hy:Fq (dN kk ps) y)(fy:Fs D M y) :
  Ca E1 19 [.d (aV kk ps),.d (bV kk x).d,.d (bV kk y).d] (.d (bV kk (bO (dN kk ps) x y)).d,none) :=
 KI hv (S:=3) (M:=216) ae ae (yC (aY hv) hx fx hD hD2 hN) (yC (aY hv) hy fy hD hD2 hM)
end vals
end Fi.S
noncomputable section
namespace Fi.S
open Go Fi
set_option maxHeartbeats 8000000
set_option maxRecDepth 10000
def oD (sy:Int)(l:List Int):List Int:=(l.take 4).map fun x=>1+x % sy
theorem Gu (sy:Int)(l:List Int):(oD sy l).length<=4:=by
 unfold oD;rw[Ql1,Qk0];omega
theorem XG (sy:Int)(hsy:2<=sy/\sy<=3)(l:List Int)(hl:∀ x ∈ l,gM x):Ca E1 1018 [.d (.s 1 (LK .i64 l)),dI sy,dI 4] (.d (.s 1 (LK .i64 (oD sy l))),none):=by
 have md:∀ x ∈ l,Ca E1 46 [dI x,dI sy] (dI (x % sy),none):=fun x hx=>Ca.gV (jK x sy (hl x hx) ae ae)
 have wa:∀ x:Int,ak .i64 (1+x % sy)=1+x % sy:=fun x=>wrap_i64 (by
  have h1:=Qp0 x (show sy≠0 by omega);have h2:=Qm0 x (show 0<sy by omega);omega)
 have wr4:ak .i64 4=4:=wrap_i64 ae
 match l,md with
 | [],_ =>
  refine Ca.bQ (n:=200) ?_;rw[aB rfl (k1018:E1.fn _=_) rfl];simp[aF,f1018,oD,LK]
 | [a],md =>
  obtain⟨N,t⟩:=(md a aC).any;replace t:=t N (Qe1 _);refine Ca.bQ (n:=N+200) ?_;rw[aB rfl (k1018:E1.fn _=_) rfl];simp[aF,f1018,oD,LK,t,wa,NZ,most,ai.view]
 | [a,b],md =>
  obtain⟨K,hK,t1,t2⟩:=((md a aC).j ((md b aC).any)).at 0;refine Ca.bQ (n:=K+200) ?_;rw[aB rfl (k1018:E1.fn _=_) rfl];simp[aF,f1018,oD,LK,t1,t2,wa,NZ,wr2,most,ai.view]
 | [a,b,c],md =>
  obtain⟨K,hK,t1,t2,t3⟩:=((md a aC).j ((md b aC).j ((md c aC).any))).at 0;refine Ca.bQ (n:=K+200) ?_;rw[aB rfl (k1018:E1.fn _=_) rfl];simp[aF,f1018,oD,LK,t1,t2,t3,wa,NZ,wr2,wr3,most,ai.view]
 | a::b::c::d::r,md =>
  obtain⟨K,hK,t1,t2,t3,t4⟩:=((md a aC).j ((md b aC).j ((md c aC).j ((md d aC).any)))).at 0;refine Ca.bQ (n:=K+200) ?_;rw[aB rfl (k1018:E1.fn _=_) rfl];have e:LK .i64 (oD sy (a::b::c::d::r))=[vI (1+a % sy),vI (1+b % sy),vI (1+c % sy),vI (1+d % sy)]:=by simp[LK,oD]
  rw[e];have x0:(LK .i64 (a::b::c::d::r))[0]?=some (vI a):=rfl;have x1:(LK .i64 (a::b::c::d::r))[1]?=some (vI b):=rfl;have x2:(LK .i64 (a::b::c::d::r))[2]?=some (vI c):=rfl;have x3:(LK .i64 (a::b::c::d::r))[3]?=some (vI d):=rfl;have hlen:(LK .i64 (a::b::c::d::r)).length=(a::b::c::d::r).length:=by simp[LK]
  have h3:4<=(a::b::c::d::r).length:=aC;generalize (a::b::c::d::r).length=n at*;generalize LK .i64 (a::b::c::d::r)=xs at*;have i0:=idx x0;have i1:=idx x1;have i2:=idx x2;have i3:=idx x3;have n0:0<n:=ae;have n1:1<n:=ae;have n2:2<n:=ae;have n3:3<n:=ae;have m0:(0:Int)<n:=ae;have m1:(1:Int)<n:=ae;have m2:(2:Int)<n:=ae;have m3:(3:Int)<n:=ae
  by_cases h:(4:Int)<n
  ·simp (maxSteps:=400000) [aF,f1018,t1,t2,t3,t4,wa,NZ,wr2,wr3,wr4,most,ai.view,x0,x1,x2,x3,i0,i1,i2,i3,hlen,n0,n1,n2,n3,m0,m1,m2,m3,h]
  ·simp (maxSteps:=400000) [aF,f1018,t1,t2,t3,t4,wa,NZ,wr2,wr3,wr4,most,ai.view,x0,x1,x2,x3,i0,i1,i2,i3,hlen,n0,n1,n2,n3,m0,m1,m2,m3,h]
theorem Sw {kk:Int}{ps:List Int}(hv:aM kk ps=true)(v:Int):iB 3 20 (dN kk ps) (tJ kk ps v):=by
 have h:=Gh hv v;have hf:=En hv v;refine⟨h.1,fun i k x hk hx => ?_⟩;have g1:=h.2 i k x hk hx;have g2:=Ou (T:=3) (aY hv k (Qa2 hk)) g1 (hf x (Qa2 hx)) ae ae ae;cases x with
 | q a=>exact⟨g2.1,g2.2⟩
 | c i n=>exact g2
 | s u=>exact g2
 | p l=>exact⟨g2.1,g2.2.1,Qd1 g1.2.2 ae⟩
def zV (kk:Int)(ps:List Int)(l:List Int)(i one:Nat):List Sv :=
 match l[i]? with
 | some v=>tJ kk ps v
 | none=>if i=one then Gm kk ps else bY kk ps
theorem XH {kk:Int}{ps:List Int}(hv:aM kk ps=true)(l:List Int)(hl:∀ x ∈ l,gM x)(i one:Nat):Ca E1 1075 [.d (aV kk ps),.d (.s 1 (LK .i64 l)),dI i,dI one] (.d (bV kk (zV kk ps l i one)).d,none):=by
 have n1:(LK .i64 l).length=l.length:=by simp[LK]
 have i0:(0:Int)<=(i:Int):=ae;unfold zV;cases h:l[i]? with
 | some v =>
  have hi:=(aU h)
  have e1:(LK .i64 l)[i]?=some (vI v):=by simp[LK,h]
  have hic:(i:Int)<(l.length:Int):=ae;obtain⟨N,t⟩:=(KG hv v (hl v (Qa2 h))).get;show Ca E1 1075 _ (.d (bV kk (tJ kk ps v)).d,none);generalize bV kk (tJ kk ps v)=w at*;refine Ca.bQ (n:=N+100) ?_;rw[aB rfl (k1075:E1.fn _=_) rfl];obtain⟨ws,l1,l2,c,b,u,p,q,ew⟩:=w.aP;rw[ew]at t ⊢;unfold aV wD at*;generalize LK .i64 ps=l9,LK .i64 l=l8 at*;have i1:=idx e1;simp[f1075,t,n1,e1,i1,hi,hic,i0]
 | none =>
  have hi:l.length<=i:=by simpa using h
  have hic:¬ (i:Int)<(l.length:Int):=ae;show Ca E1 1075 _ (.d (bV kk (if i=one then Gm kk ps else bY kk ps)).d,none)
  by_cases ho:i=one
  ·rw[if_pos ho];subst ho;obtain⟨N,t⟩:=(aaZ hv).2.get;rw[show(dN kk ps).map pM=Gm kk ps from rfl]at t;generalize bV kk (Gm kk ps)=w at*;refine Ca.bQ (n:=N+100) ?_;rw[aB rfl (k1075:E1.fn _=_) rfl];obtain⟨ws,l1,l2,c,b,u,p,q,ew⟩:=w.aP;rw[ew]at t ⊢;unfold aV wD at*;generalize LK .i64 ps=l9,LK .i64 l=l8 at*;simp[f1075,t,n1,hic]
  ·rw[if_neg ho];obtain⟨N,t⟩:=(Ih hv).get;rw[show(dN kk ps).map dP=bY kk ps from rfl]at t;have hne:((i:Int)==(one:Int))=false:=by simp;omega
   generalize bV kk (bY kk ps)=w at*;refine Ca.bQ (n:=N+100) ?_;rw[aB rfl (k1075:E1.fn _=_) rfl];obtain⟨ws,l1,l2,c,b,u,p,q,ew⟩:=w.aP;rw[ew]at t ⊢;unfold aV wD at*;simp[f1075,t,n1,hic,hne]
theorem XI {kk:Int}{ps:List Int}(hv:aM kk ps=true)(l:List Int)(i one:Nat):Wt kk ps (zV kk ps l i one):=by
 unfold zV;cases l[i]? with
 | some v=>exact⟨Sw hv v,(En hv v).mono ae⟩
 | none =>
  show Wt kk ps (if i=one then Gm kk ps else bY kk ps);split
  ·exact⟨KC ae ae (aY hv),abC (aY hv) ae⟩
  ·exact⟨nC ae (aY hv),K7 (aY hv) _ _⟩
end Fi.S
noncomputable section
namespace Fi.S
open Go Fi
set_option maxHeartbeats 8000000
set_option maxRecDepth 10000
def moD (st:Int)(li lf la:List Int):D:=.a [vI st,.s 1 (LK .i64 li),.s 1 (LK .i64 lf),.s 1 (LK .i64 la),vB false]
def dM (st:Int)(li lf la:List Int):ai:=.box [dI st,.d (.s 1 (LK .i64 li)),.d (.s 1 (LK .i64 lf)),.d (.s 1 (LK .i64 la)),dB false]
def jB (kk:Int)(ps:List Int):ai:=.box [dI kk,.d (.s 1 (LK .i64 ps))]
def nX:ai:=.box [dI 0,.d (.n 1),dI 0,dI 0,.d (.n 8),.d (.n 8),.d (.n 11)]
def Qg (kk:Int)(ps:List Int)(sy:Int)(n:Nat)(x y w:FV):ai:=.box [dI kk,.d (.s 1 (LK .i64 ps)),dI sy,dI n,x,y,w]
def Sy (sy:Int)(n:Nat)(L:List ai)(j:Nat)(t:FV):St :=
 (st0 [.u,.u,dI sy,.u,rL 0,rL 1,rL 2,dI n,rL 3,dI j,.u,.u,t,.u,.u] L)
def mL1:aG:=f1028.body.r.r.r.l.r.bl.lp
def mH (M R:ai)(kk:Int)(ps:List Int)(sy:Int)(n:Nat)(is fs:List D):List ai :=
 if is.length=0 then [M,R,nX,Qg kk ps sy n (.d (.n 8)) (.d (.n 8)) (.d (.n 11))]
 else [M,R,nX,Qg kk ps sy n (.ls (.loc 4) (is.length-1) 8 0 is.length) (.ls (.loc 5) (is.length-1) 8 0 is.length) (.d (.n 11)),.row (is.length-1) 8 is,.row (is.length-1) 8 fs]
theorem XJ (st:Int)(li lf la:List Int)(kk:Int)(ps:List Int)(sy:Int)(n j:Nat)(hj:j<n)(hn:n<=4)(is fs:List D)(hi:is.length=j)(hf:fs.length=j)(w v:W)
  (h1:Ca E1 1075 [.d (aV kk ps),.d (.s 1 (LK .i64 li)),dI j,dI 0] (.d w.d,none))
  (h2:Ca E1 1075 [.d (aV kk ps),.d (.s 1 (LK .i64 lf)),dI j,dI ((n:Int)-1)] (.d v.d,none)) :
  Ex E1 mL1 (Sy sy n (mH (dM st li lf la) (jB kk ps) kk ps sy n is fs) j .u) (.norm,Sy sy n (mH (dM st li lf la) (jB kk ps) kk ps sy n (is++[w.d]) (fs++[v.d])) (j+1) .u):=by
 obtain⟨K,hK,t1,t2⟩:=(h1.j h2.any).at 0;have hjn:(j:Int)<(n:Int):=ae;have hw:ak .i64 ((j:Int)+1)=(j:Int)+1:=wrap_i64 ae;have hw2:ak .i64 ((n:Int)-1)=(n:Int)-1:=wrap_i64 ae;have hj1:((j+1:Nat):Int)=(j:Int)+1:=ae;have hl1:(is++[w.d]).length=j+1:=by simp[hi]
 refine Ex.of (n:=K+300) ?_;obtain⟨ws,l1,l2,c,b,u,p,q,ew⟩:=w.aP;obtain⟨vs,k1,k2,c',b',u',p',q',ev⟩:=v.aP;unfold Sy mH;rw[hl1,if_neg (show ¬ j+1=0 by omega),hi,hj1,Q22];rw[ew]at t1 ⊢;rw[ev]at t2 ⊢;clear h1 h2 ew ev;unfold dM jB nX Qg aV wD at*;cases j with
 | zero =>
  have e1:is=[]:=Xj0.1 hi;have e2:fs=[]:=Xj0.1 hf;subst e1 e2;have z0:((0:Nat):Int)=0:=rfl;rw[z0]at t1 t2 hw ⊢;rw[if_pos rfl];simp (maxSteps:=400000) [mL1,f1028,t1,t2,hw,hw2,hj,hjn,NZ,most]
 | succ k =>
  have hk:((k+1:Nat):Int)=(k:Int)+1:=ae;rw[if_neg (show ¬ k+1=0 by omega),Q22];rw[hk]at t1 t2 hw hjn ⊢;have tk1:is.take (k+1)=is:=Qe0 ae;have tk2:fs.take (k+1)=fs:=Qe0 ae;have m1:(k+1+1)*128<=1099511627776:=ae;have m2:k+1+1<=1099511627776:=ae;simp (maxSteps:=400000) [mL1,f1028,t1,t2,hw,hw2,hj,hjn,hi,hf,tk1,tk2,most,m1,m2]
theorem abD (st:Int)(li lf la:List Int)(kk:Int)(ps:List Int)(sy:Int)(n:Nat)(hn:0<n)(is fs:List D)(hi:is.length=n) :
  Ex E1 mL1 (Sy sy n (mH (dM st li lf la) (jB kk ps) kk ps sy n is fs) n .u) (.exit 0,Sy sy n (mH (dM st li lf la) (jB kk ps) kk ps sy n is fs) n (dB false)):=by
 refine Ex.of (n:=100) ?_;unfold Sy mH;rw[hi,if_neg ae];unfold dM jB nX Qg;simp (maxSteps:=400000) [mL1,f1028]
def Sz (sy:Int)(n:Nat)(L:List ai)(j:Nat)(t:FV):St :=
 (st0 [.u,.u,dI sy,.u,rL 0,rL 1,rL 2,dI n,rL 3,.u,dI (4*j),.u,.u,t,.u] L)
def mL2:aG:=f1028.body.r.r.r.r.l.r.bl.lp
def mA (M R:ai)(kk:Int)(ps:List Int)(sy:Int)(n:Nat)(is fs as':List D):List ai :=
 if as'.length=0 then [M,R,nX,Qg kk ps sy n (.ls (.loc 4) (n-1) 8 0 n) (.ls (.loc 5) (n-1) 8 0 n) (.d (.n 11)),.row (n-1) 8 is,.row (n-1) 8 fs]
 else [M,R,nX,Qg kk ps sy n (.ls (.loc 4) (n-1) 8 0 n) (.ls (.loc 5) (n-1) 8 0 n) (.ls (.loc 6) (as'.length-1) 11 0 as'.length),.row (n-1) 8 is,.row (n-1) 8 fs,.row (as'.length-1) 11 as']
variable {α:Type} {e:α->W}
theorem XK (st:Int)(li lf la:List Int)(kk:Int)(ps:List Int)(sy:Int)(n j:Nat)(hn:0<n/\n<=4)(hsy:1<=sy/\sy<=32)(is fs as':List D)(ha:as'.length=j)(hj:j<10)(v0 v1 v2 v3:Int) 
  (g0:la[4*j]?=some v0) (g1:la[4*j+1]?=some v1) (g2:la[4*j+2]?=some v2) (g3:la[4*j+3]?=some v3) (x:α)
  (h0:Ca E1 46 [dI v0,dI n] (dI (v0 % n),none)) (h1:Ca E1 46 [dI v1,dI sy] (dI (v1 % sy),none))
  (h2:Ca E1 46 [dI v2,dI n] (dI (v2 % n),none)) (h3:Ca E1 16 [.d (aV kk ps),dI v3] (.d (e x).d,none)) :
  Ex E1 mL2 (Sz sy n (mA (dM st li lf la) (jB kk ps) kk ps sy n is fs as') j .u) (.norm,Sz sy n (mA (dM st li lf la) (jB kk ps) kk ps sy n is fs (as'++[Ar.d e ⟨v0 % n,1+v1 % sy,v2 % n,x⟩])) (j+1) .u):=by
 obtain⟨K,hK,t0,t1,t2,t3⟩:=(h0.j (h1.j (h2.j h3.any))).at 0;have q3:=(aU g3)
 have hlen:(LK .i64 la).length=la.length:=by simp[LK]
 have e0:(LK .i64 la)[4*j]?=some (vI v0):=by simp[LK,g0]
 have e1:(LK .i64 la)[4*j+1]?=some (vI v1):=by simp[LK,g1]
 have e2:(LK .i64 la)[4*j+2]?=some (vI v2):=by simp[LK,g2]
 have e3:(LK .i64 la)[4*j+3]?=some (vI v3):=by simp[LK,g3]
 have r1:=Qp0 v1 (show sy≠0 by omega);have r2:=Qm0 v1 (show 0<sy by omega);have hw1:ak .i64 (1+v1 % sy)=1+v1 % sy:=wrap_i64 ae;have hl1:(as'++[Ar.d e ⟨v0 % n,1+v1 % sy,v2 % n,x⟩]).length=j+1:=by simp[ha]
 have u1:((4*j+1:Nat):Int)=4*(j:Int)+1:=ae;have c4:4*((j+1:Nat):Int)=4*(j:Int)+4:=ae;refine Ex.of (n:=K+400) ?_;obtain⟨s,a1,a2,ac,ab,au,ap,aq,ew,ea⟩:=Ar.fH e (⟨v0 % n,1+v1 % sy,v2 % n,x⟩:Ar α);simp only at ew;unfold Sz mA;rw[hl1,if_neg (show ¬ j+1=0 by omega),ha,c4,Q22,ea];rw[ew]at t3;clear h0 h1 h2 h3 ew ea hl1;unfold dM jB nX Qg aV wD pQ at*;simp only;generalize v1 % sy=w1 at*;generalize v0 % (n:Int)=w0 at*;generalize v2 % (n:Int)=w2 at*;have p0:4*j<la.length:=ae;have p1:4*j+1<la.length:=ae;have p2:4*j+2<la.length:=ae;obtain⟨k,hk⟩:∃ k:Nat,k=4*j:=⟨_,rfl⟩
 have hkI:4*(j:Int)=(k:Int):=ae;have an1:k<=36:=ae;have hkl:k+3<la.length:=ae;rw[<-hk]at e0 e1 e2 e3 p0 p1 p2 q3;rw[hkI];have i0:=idx e0;have i1:=idx e1;have i2:=idx e2;have i3:=idx e3;have s1:ak .i64 ((k:Int)+1)=(k:Int)+1:=wrap_i64 ae;have s2:ak .i64 ((k:Int)+2)=(k:Int)+2:=wrap_i64 ae;have s3:ak .i64 ((k:Int)+3)=(k:Int)+3:=wrap_i64 ae;have s4:ak .i64 ((k:Int)+4)=(k:Int)+4:=wrap_i64 ae;have b0:(0:Int)<=(k:Int):=ae;have b1:(0:Int)<=(k:Int)+1:=ae;have b2:(0:Int)<=(k:Int)+2:=ae;have b3:(0:Int)<=(k:Int)+3:=ae;have k0:(k:Int)<(la.length:Int):=ae;have k1:(k:Int)+1<(la.length:Int):=ae;have k2:(k:Int)+2<(la.length:Int):=ae;have k3:(k:Int)+3<(la.length:Int):=ae;have k4:(k:Int)<40:=ae;have d1:((k:Int)+1).toNat=k+1:=ae;have d2:((k:Int)+2).toNat=k+2:=ae;have d3:((k:Int)+3).toNat=k+3:=ae;cases j with
 | zero =>
  have e1:as'=[]:=Xj0.1 ha;subst e1;rw[if_pos rfl];simp (maxSteps:=800000) [mL2,f1028,t0,t1,t2,t3,hw1,hlen,e0,e1,e2,e3,i0,i1,i2,i3,p0,p1,p2,q3,s1,s2,s3,s4,b0,b1,b2,b3,k0,k1,k2,k3,k4,d1,d2,d3,most]
 | succ m =>
  rw[if_neg (show ¬ m+1=0 by omega),Q22];have tk:as'.take (m+1)=as':=Qe0 ae;have m1:(m+1+1)*152<=1099511627776:=ae;have m2:m+1+1<=1099511627776:=ae;simp (maxSteps:=800000) [mL2,f1028,t0,t1,t2,t3,hw1,hlen,e0,e1,e2,e3,i0,i1,i2,i3,p0,p1,p2,q3,s1,s2,s3,s4,b0,b1,b2,b3,k0,k1,k2,k3,k4,d1,d2,d3,ha,tk,most,m1,m2]
theorem abE (st:Int)(li lf la:List Int)(kk:Int)(ps:List Int)(sy:Int)(n j:Nat)(is fs as':List D)(hj:j<=10)(h:la.length<4*j+4\/j=10) :
  Ex E1 mL2 (Sz sy n (mA (dM st li lf la) (jB kk ps) kk ps sy n is fs as') j .u) (.exit 2,Sz sy n (mA (dM st li lf la) (jB kk ps) kk ps sy n is fs as') j (dB false)):=by
 have hlen:(LK .i64 la).length=la.length:=by simp[LK]
 have s3:ak .i64 (4*(j:Int)+3)=4*(j:Int)+3:=wrap_i64 ae;refine Ex.of (n:=200) ?_;unfold Sz mA;unfold dM jB nX Qg
 by_cases h1:4*(j:Int)+3<(la.length:Int)
 ·have h2:¬ 4*(j:Int)<40:=ae;split<;>simp (maxSteps:=400000) [mL2,f1028,hlen,s3,h1,h2]
 ·split<;>simp (maxSteps:=400000) [mL2,f1028,hlen,s3,h1]
def stM (st:Int):Nat:=(1+ak .i64 (st-1) % 4).toNat
theorem Qh (st:Int):(stM st:Int)=1+ak .i64 (st-1) % 4:=by
 unfold stM;have h1:=Qp0 (ak .i64 (st-1)) (show(4:Int)≠0 by omega);omega
theorem XL (st:Int):0<stM st/\stM st<=4:=by
 have h:=Qh st;have h1:=Qp0 (ak .i64 (st-1)) (show(4:Int)≠0 by omega);have h2:=Qm0 (ak .i64 (st-1)) (show(0:Int)<4 by omega);omega
def Bn (kk:Int)(ps:List Int)(l:List Int)(one n:Nat):List (List Sv):=(List.range n).map fun i=>zV kk ps l i one
def aiw (kk:Int)(ps:List Int)(sy:Int)(n:Nat)(la:List Int)(j:Nat):Ar (List Sv):=⟨la.getD (4*j) 0 % n,1+la.getD (4*j+1) 0 % sy,la.getD (4*j+2) 0 % n,tJ kk ps (la.getD (4*j+3) 0)⟩
def Eo (la:List Int):Nat:=min 10 (la.length / 4)
def yD (kk:Int)(ps:List Int)(sy:Int)(n:Nat)(la:List Int):List (Ar (List Sv)):=(List.range (Eo la)).map (aiw kk ps sy n la)
theorem K_ (kk:Int)(ps l:List Int)(one n:Nat):(Bn kk ps l one n).length=n:=by simp[Bn]
theorem SA (kk:Int)(ps:List Int)(sy:Int)(n:Nat)(la:List Int):(yD kk ps sy n la).length<=10:=by simp[yD,Eo];omega
theorem abF {kk:Int}{ps:List Int}(hv:aM kk ps=true)(st:Int)(li lf la:List Int)(sy:Int)(hsy:1<=sy/\sy<=32)(hi:∀ x ∈ li,gM x)(hf:∀ x ∈ lf,gM x)(ha:∀ x ∈ la,gM x) :
  Ca E1 1028 [.d (moD st li lf la),.d (aV kk ps),dI sy,dI 4]
   (.d (tV kk ps sy (stM st) ((Bn kk ps li 0 (stM st)).map (bV kk)) ((Bn kk ps lf (stM st-1) (stM st)).map (bV kk)) (bV kk) (yD kk ps sy (stM st) la)),none):=by
 obtain⟨hn0,hn4⟩:=XL st;have hni:=Qh st;have cm:=Ca.gV (jK (ak .i64 (st-1)) 4 (WM _) ae ae);have hw:ak .i64 (1+ak .i64 (st-1) % 4)=1+ak .i64 (st-1) % 4:=wrap_i64 ae;generalize hmm:ak .i64 (st-1) % 4=mm at*;generalize stM st=n at*;have e1:((Bn kk ps li 0 n).map (bV kk)).map W.d=(List.range n).map fun i=>(bV kk (zV kk ps li i 0)).d:=by simp[Bn]
 have e2:((Bn kk ps lf (n-1) n).map (bV kk)).map W.d=(List.range n).map fun i=>(bV kk (zV kk ps lf i (n-1))).d:=by simp[Bn]
 unfold tV;rw[e1,e2]
 -- the ends
 obtain⟨r1,hl1,hr1⟩:=Ex.fold (E:=E1) (b:=mL1) (List.range n) (fun(u:Unit) _=>u) () (fun j _ s=>s=Sy sy n (mH (dM st li lf la) (jB kk ps) kk ps sy n ((List.range j).map fun i=>(bV kk (zV kk ps li i 0)).d) ((List.range j).map fun i=>(bV kk (zV kk ps lf i (n-1))).d)) j .u)
  (fun _ q=>q=(.exit 0,Sy sy n (mH (dM st li lf la) (jB kk ps) kk ps sy n ((List.range n).map fun i=>(bV kk (zV kk ps li i 0)).d) ((List.range n).map fun i=>(bV kk (zV kk ps lf i (n-1))).d)) n (dB false)))
  (fun j a s hj hs=>by
   have hjn:j<n:=by simpa using(aU hj)
   subst hs;refine⟨_,?_,rfl⟩;rw[List.range_succ,Qq2,Qq2];have c2:=XH hv lf hf j (n-1);rw[show(((n-1:Nat)):Int)=(n:Int)-1 by omega]at c2;exact XJ st li lf la kk ps sy n j hjn hn4 _ _ aC aC _ _ (XH hv li hi j 0) c2)
  (fun s hs=>by
   subst hs;simp only[List.length_range];exact⟨_,abD st li lf la kk ps sy n hn0 _ _ aC,aC,rfl⟩)
  (st:=Sy sy n (mH (dM st li lf la) (jB kk ps) kk ps sy n [] []) 0 .u) rfl
 subst hr1;generalize hIs:((List.range n).map fun i=>(bV kk (zV kk ps li i 0)).d)=is at*;generalize hFs:((List.range n).map fun i=>(bV kk (zV kk ps lf i (n-1))).d)=fs at*;have hil:is.length=n:=by rw[<-hIs];simp
 have hfl:fs.length=n:=by rw[<-hFs];simp
 clear hIs hFs e1 e2
 -- the av
 obtain⟨r2,hl2,hr2⟩:=Ex.fold (E:=E1) (b:=mL2) (List.range (Eo la)) (fun(u:Unit) _=>u) () (fun j _ s=>s=Sz sy n (mA (dM st li lf la) (jB kk ps) kk ps sy n is fs (((List.range j).map (aiw kk ps sy n la)).map (Ar.d (bV kk)))) j .u)
  (fun _ q=>q=(.exit 2,Sz sy n (mA (dM st li lf la) (jB kk ps) kk ps sy n is fs ((yD kk ps sy n la).map (Ar.d (bV kk)))) (Eo la) (dB false)))
  (fun j a s hj hs=>by
   have hjn:j<Eo la:=by simpa using(aU hj)
   have aln:=hjn;unfold Eo at aln;subst hs;refine⟨_,?_,rfl⟩;rw[List.range_succ,Qq2,Qq2];have g:∀ k,k<4->la[4*j+k]?=some (la.getD (4*j+k) 0):=fun k hk=>by
    rw[Qh1,Qa1 ae];rfl
   have gr:∀ k,k<4->gM (la.getD (4*j+k) 0):=fun k hk=>ha _ (Qa2 (g k hk))
   exact XK (e:=bV kk) st li lf la kk ps sy n j ⟨hn0,hn4⟩ hsy is fs _ aC ae _ _ _ _ (g 0 ae) (g 1 ae) (g 2 ae) (g 3 ae) _
    (Ca.gV (jK _ n (gr 0 ae) ae ae)) (Ca.gV (jK _ sy (gr 1 ae) ae ae)) (Ca.gV (jK _ n (gr 2 ae) ae ae)) (KG hv _ (gr 3 ae)))
  (fun s hs=>by
   subst hs;simp only[List.length_range];exact⟨_,abE st li lf la kk ps sy n (Eo la) is fs _ (by unfold Eo;omega) (by unfold Eo;omega),aC,rfl⟩)
  (st:=Sz sy n (mA (dM st li lf la) (jB kk ps) kk ps sy n is fs []) 0 .u) rfl
 subst hr2;have hal:((yD kk ps sy n la).map (Ar.d (bV kk))).length=Eo la:=by simp[yD]
 generalize (yD kk ps sy n la).map (Ar.d (bV kk))=as' at*;obtain⟨N,t⟩:=cm.get;have hA:Ex E1 f1028.body.l (st0 (.d (moD st li lf la)::.d (aV kk ps)::dI sy::dI 4::Mw) [])
   (.norm,(st0 (.u::.u::dI sy::dI 4::rL 0::rL 1::rL 2::xh) [dM st li lf la,jB kk ps,nX])):=by
  apply e6;unfold moD dM aV jB nX;generalize LK .i64 ps=l9,LK .i64 li=l8,LK .i64 lf=l7,LK .i64 la=l6 at*;simp[f1028]
 have hB := nx hA f1028.body.r.l (st0 (.u::.u::dI sy::.u::rL 0::rL 1::rL 2::dI n::qi) [dM st li lf la,jB kk ps,nX]) (by
  refine Ex.of (n:=N+60) ?_;rw[hni];unfold dM jB nX;generalize LK .i64 ps=l9,LK .i64 li=l8,LK .i64 lf=l7,LK .i64 la=l6 at*;simp[f1028,t,hw])
 have hC := nx hB f1028.body.r.r.l (st0 (.u::.u::dI sy::.u::rL 0::rL 1::rL 2::dI n::rL 3::rM) [dM st li lf la,jB kk ps,nX,Qg kk ps sy n (.d (.n 8)) (.d (.n 8)) (.d (.n 11))]) (by
  refine Ex.of (n:=100) ?_;unfold dM jB nX Qg;generalize LK .i64 ps=l9,LK .i64 li=l8,LK .i64 lf=l7,LK .i64 la=l6 at*;simp[f1028])
 have hD := nx hC f1028.body.r.r.r.l.l (Sy sy n (mH (dM st li lf la) (jB kk ps) kk ps sy n [] []) 0 .u) (by
  apply e6;unfold Sy mH;simp[f1028])
 have hE:Ex E1 f1028.body.r.r.r.r.l.l (Sy sy n (mH (dM st li lf la) (jB kk ps) kk ps sy n is fs) n (dB false))
   (.norm,Sz sy n (mA (dM st li lf la) (jB kk ps) kk ps sy n is fs []) 0 .u):=by
  apply e6;unfold Sy Sz mH mA;rw[hil,if_neg ae,if_pos (show([]:List D).length=0 from rfl)];simp[f1028]
 refine Ca.body (o:=.ret) (st1:=(st0 (.u::.u::.u::.u::.u::.u::rL 2::xh) ((mA (dM st li lf la) (jB kk ps) kk ps sy n is fs as').set 2 (Qg kk ps sy n (.ls (.loc 4) (n-1) 8 0 n) (.ls (.loc 5) (n-1) 8 0 n) (if as'.length=0 then .d (.n 11) else .ls (.loc 6) (as'.length-1) 11 0 as'.length))))) rfl (aO 1028 f1028:E1.fn _=_) rfl ?_ (by intro id h;cases h) ?_
 ·have hF : Ex E1 f1028.body.r.r.r.r.r (Sz sy n (mA (dM st li lf la) (jB kk ps) kk ps sy n is fs as') (Eo la) (dB false))
       (.ret, (st0 (.u::.u::.u::.u::.u::.u::rL 2::xh) ((mA (dM st li lf la) (jB kk ps) kk ps sy n is fs as').set 2 (Qg kk ps sy n (.ls (.loc 4) (n - 1) 8 0 n) (.ls (.loc 5) (n - 1) 8 0 n) (if as'.length = 0 then .d (.n 11) else .ls (.loc 6) (as'.length - 1) 11 0 as'.length))))) := by
   refine Ex.of (n:=100) ?_;unfold Sz mA dM jB nX Qg;generalize LK .i64 ps=l9,LK .i64 li=l8,LK .i64 lf=l7,LK .i64 la=l6 at*
   by_cases h:as'.length=0
   ·rw[if_pos h,if_pos h];simp[f1028]
   ·rw[if_neg h,if_neg h];simp[f1028]
  show Ex E1 (.seq f1028.body.l (.seq f1028.body.r.l (.seq f1028.body.r.r.l (.seq (.seq f1028.body.r.r.r.l.l (.block 0 (.loop mL1))) (.seq (.seq f1028.body.r.r.r.r.l.l (.block 2 (.loop mL2))) f1028.body.r.r.r.r.r))))) _ _;exact hA.seq (hB.seq (hC.seq ((hD.seq hl1.block).seq ((hE.seq hl2.block).seq hF))))
 ·have v1:ai.view (n-1) 8 0 n (.row (n-1) 8 is)=some is:=by rw[<-hil];simp[ai.view]
  have v2:ai.view (n-1) 8 0 n (.row (n-1) 8 fs)=some fs:=by rw[<-hfl];simp[ai.view]
  have v3:ai.view (as'.length-1) 11 0 as'.length (.row (as'.length-1) 11 as')=some as':=by simp[ai.view]
  unfold mA dM jB nX Qg iD
  by_cases h:as'.length=0
  ·have h':as'=[]:=Xj0.1 h;subst h';simp[f1028,v1,v2]
  ·rw[if_neg h,if_neg h];simp[f1028,v1,v2,v3]
end Fi.S
noncomputable section
namespace Fi.S
open Go Fi
set_option maxHeartbeats 8000000
set_option maxRecDepth 10000
theorem afB {k:Int}(hk:single k=true){S M:Nat}{x:Sv}(hx:x.of k S M)(h:x.w=(dP k).w):x=dP k:=by
 rcases aQ hk with rfl|rfl|rfl|rfl|rfl
 ·obtain⟨a,rfl,_⟩:=xR hx
  injection h with h1 h2 h3
  show Sv.q a=.q 0;rw[<-sw a,h1,h2,h3,sw]
 ·obtain⟨i,n,rfl,_⟩:=xS hx
  injection h with _ _ _ h1 h2
  show Sv.c i n=.c true 0;rw[h1,h2]
 ·obtain⟨a,rfl,_⟩:=xU hx
  injection h with h1 h2 h3
  show Sv.q a=.q 0;rw[<-sw a,h1,h2,h3,sw]
 ·obtain⟨u,rfl,_⟩:=xV hx
  injection h with _ _ _ _ _ h1
  show Sv.s u=.s 0;rw[h1]
 ·obtain⟨a,rfl,_⟩:=xW hx
  injection h with _ _ _ _ _ _ h1
  have:a=[]:=Xs2.1 h1;rw[this];rfl
theorem XM {kk:Int}{ps:List Int}(hv:aM kk ps=true){x:List Sv}(hx:Fq (dN kk ps) x)(h:lV kk ps x=true):x=bY kk ps:=by
 have he:=W.Qb h;obtain⟨S,M,_,_,hx⟩:=hx;have hs:=aY hv;have hz:iB 1 1 (dN kk ps) (bY kk ps):=nC ae hs;refine mR hx.1 hz.1 (fun i k a b hk ha hb => ?_);have hb':b=dP k:=oP hk hb;subst hb';refine afB (hs k (Qa2 hk)) (hx.2 i k a hk ha) ?_;unfold bV at he
 by_cases h6:kk=6
 ·rw[if_pos h6,if_pos h6]at he
  injection he with _ _ _ _ _ _ _ he
  have h1:(x.map Sv.w)[i]?=some a.w:=by rw[Qc0,ha];rfl
  have h2:((bY kk ps).map Sv.w)[i]?=some (dP k).w:=by rw[Qc0,hb];rfl
  rw[he,h2]at h1;exact(Q10 h1).symm
 ·rw[if_neg h6,if_neg h6]at he;have hl:x.length=1:=by rw[hx.1];unfold dN;rw[if_neg h6];rfl
  have hi:i=0:=by have:=(aU ha);omega
  subst hi;have e1:x.headD (.q 0)=a:=by
   cases x with
   | nil=>cases ha
   | cons y r=>cases ha;rfl
  have e2:(bY kk ps).headD (.q 0)=dP k:=by
   cases hq:bY kk ps with
   | nil=>rw[hq]at hb;cases hb
   | cons y r=>rw[hq]at hb;cases hb;rfl
  rw[e1,e2]at he;exact he
def GF (kk:Int)(ps:List Int)(n:Nat)(x:List Sv):Prop:=1<=n/\Fq (dN kk ps) x/\Fs 6 (640*n) x
theorem GF.ofs {kk:Int}{ps:List Int}(hv:aM kk ps=true){n:Nat}{x:List Sv}(h:GF kk ps n x)(hn:n<=1000):iB 3 216 (dN kk ps) x:=yC (aY hv) h.2.1 h.2.2 ae ae ae
theorem Wt.gf {kk:Int}{ps:List Int}{x:List Sv}(h:Wt kk ps x):GF kk ps 1 x:=⟨Qe1 _,h.gd,h.2⟩
theorem XN {kk:Int}{ps:List Int}(hv:aM kk ps=true):TY kk ps (bV kk) (bO (dN kk ps)) (bV kk (bY kk ps)) (lV kk ps) (GF kk ps) 20 where
 mono n x h:=⟨ae,h.2.1,h.2.2.mono ae⟩
 zero:=Gg hv
 pz x h:=by
  have h3:=h.ofs hv ae;have:=PU hv ae ae h3 (nC (M:=216) ae (aY hv));rw[DV (S:=3) (M:=216) ae (aY hv) h3]at this;exact this
 tk x h:=xX hv ae ae (h.ofs hv ae)
 p1 n x y hn hx hy:=PU hv (S:=3) (M:=216) ae ae (hx.ofs hv ae) (hy.ofs hv ae)
 p2 n x y hn hx hy:=KI hv (S:=3) (M:=216) ae ae (hx.ofs hv ae) (hy.ofs hv ae)
 pg n x y hn hx hy:=by
  have h1:=hx.1;refine⟨ae,(Oq (aY hv)).pp hx.2.1 hy.2.1,?_⟩;exact(yB (aY hv) hx.2.1 hy.2.1 hx.2.2 hy.2.2).mono ae
 z1 n x hn hx:=(WY hv ae (hx.ofs hv ae)).1
 z2 n x hn hx:=(WY hv ae (hx.ofs hv ae)).2
theorem Gv {kk:Int}{ps:List Int}(hv:aM kk ps=true){S M D N T:Nat}{x:List Sv}(h:iB S M (dN kk ps) x)(hf:Fs D N x)(hD:0<D)(hDT:D<4294967296 ^ T)(hN:N<4294967296 ^ T):iB T M (dN kk ps) x:=by
 refine⟨h.1,fun i k x hk hx => ?_⟩;have g1:=h.2 i k x hk hx;have g2:=Ou (T:=T) (aY hv k (Qa2 hk)) g1 (hf x (Qa2 hx)) hD hDT hN;cases x with
 | q a=>exact⟨g2.1,g2.2⟩
 | c i n=>exact g2
 | s u=>exact g2
 | p l=>exact⟨g2.1,g2.2.1,g1.2.2⟩
section av
variable {kk:Int} {ps:List Int} (hv:aM kk ps=true)
include hv
structure La (kk:Int)(ps:List Int)(sy n:Nat)(a:Ar (List Sv)):Prop where
 f:0<=a.f/\a.f<n
 l:1<=a.l/\a.l<=sy
 t:0<=a.t/\a.t<n
 x:iB 9 2 (dN kk ps) a.x
 fr:Fs 6 64 a.x
theorem La.wt {sy n:Nat}{a:Ar (List Sv)}(h:La kk ps sy n a):Wt kk ps a.x:=⟨(Gv (T:=3) hv h.x h.fr ae ae ae).mono ae ae,h.fr.mono ae⟩
theorem XO {sy n:Nat}{bD:List Sv->Bool}{l:List (Ar (List Sv))}(h:∀ a ∈ l,La kk ps sy n a)(hl:l.length<=10):∀ a ∈ dG (bO (dN kk ps)) bD l,Wt kk ps a.x/\(0<=a.f/\a.f<n)/\(1<=a.l/\a.l<=sy)/\(0<=a.t/\a.t<n):=by
 let Q:Nat->Ar (List Sv)->Prop:=fun j a=>iB (10*j+1) (2*j) (dN kk ps) a.x/\Fs 6 (64*j) a.x/\(0<=a.f/\a.f<n)/\(1<=a.l/\a.l<=sy)/\(0<=a.t/\a.t<n)
 have A:=Oq (aY hv);have key:∀ (l:List (Ar (List Sv))) (p:List (Ar (List Sv))) (j:Nat),(∀ a ∈ l,La kk ps sy n a)->(∀ a ∈ p,Q j a)->∀ a ∈ l.foldl (fun p x=>aZ (bO (dN kk ps)) x p) p,Q (j+l.length) a:=by
  intro l
  induction l with
  | nil=>intro p j _ hp;exact hp
  | cons x l ih =>
   intro p j hl hp;have hx:=hl x aC;rw[Qk2,show j+(x::l).length=(j+1)+l.length by simp;omega];refine ih _ (j+1) (fun a ha=>hl a (by simp[ha])) ?_;refine nM (bO (dN kk ps)) x (Q j) (Q (j+1)) ⟨hx.x.mono ae ae,hx.fr.mono ae,hx.f,hx.l,hx.t⟩ (fun y hy=>⟨hy.1.mono ae ae,hy.2.1.mono ae,hy.2.2⟩) (fun y hy=>⟨?_,?_,hy.2.2⟩) p hp
   ·exact(D8 ae ae (aY hv) hy.1 hx.x).mono ae ae
   ·refine(yB (aY hv) ⟨_,_,ae,?_,hy.1.mono (Qe1 _) (show 2*j<=2*j+1 by omega)⟩ ⟨_,_,ae,ae,hx.x⟩ hy.2.1 hx.fr).mono ae;omega
 intro a ha;have h2:=key l [] 0 h (fun a ha=>by cases ha) a (Qu0.1 ha).1;rw[Qy1]at h2;obtain⟨g1,g2,g3⟩:=h2;exact⟨⟨(Gv hv (T:=3) g1 g2 ae ae ae).mono ae ae,g2.mono ae⟩,g3⟩
theorem Ov (sy:Nat)(hsy:1<=sy)(n:Nat)(hn:0<n)(la:List Int):∀ a ∈ yD kk ps sy n la,La kk ps sy n a:=by
 intro a ha;obtain⟨j,hj,rfl⟩:=Qg1.1 ha;have r:∀ v:Int,0<=v % (n:Int)/\v % (n:Int)<(n:Int):=fun v=>⟨Qp0 v (show(n:Int)≠0 by omega),Qm0 v (show 0<(n:Int) by omega)⟩
 have r2:∀ v:Int,0<=v % (sy:Int)/\v % (sy:Int)<(sy:Int):=fun v=>⟨Qp0 v (show(sy:Int)≠0 by omega),Qm0 v (show 0<(sy:Int) by omega)⟩
 have q:=r2 (la.getD (4*j+1) 0);exact⟨r _,⟨by show 1<=1+_;omega,by show 1+_<=_;omega⟩,r _,Gh hv _,En hv _⟩
theorem Lb {x:List Sv}(h:Wt kk ps x):(bV kk x).OK/\di kk ps (bV kk x)=true:=⟨KD hv ae h.1,DW hv h.1⟩
theorem SB {sy n:Nat}(hsy:1<=sy/\sy<=32)(hn:n<=64){aK fin:List (List Sv)}{av:List (Ar (List Sv))}(h1:aK.length=n)(h2:fin.length=n)(hi:∀ x ∈ aK,Wt kk ps x)(hf:∀ x ∈ fin,Wt kk ps x)(ha:av.length<=2048)
  (hw:∀ a ∈ av,Wt kk ps a.x/\(0<=a.f/\a.f<n)/\(1<=a.l/\a.l<=sy)/\(0<=a.t/\a.t<n)) :
  Og kk ps sy n (aK.map (bV kk)) (fin.map (bV kk)) (bV kk) av=true:=by
 have e1:av.all (qP kk ps sy n (bV kk))=true:=by
  rw[Qh0];intro a ha;obtain⟨g1,g2,g3,g4⟩:=hw a ha;unfold qP stB;rw[(Lb hv g1).2];simp only[X10,Qc1,decide_eq_true_eq];omega
 have e2:∀ {l:List (List Sv)},(∀ x ∈ l,Wt kk ps x)->(l.map (bV kk)).all (di kk ps)=true:=by
  intro l h;rw[Qh0];intro w hw;obtain⟨x,hx,rfl⟩:=Qg1.1 hw;exact(Lb hv (h x hx)).2
 unfold Og PZ;rw[e1,e2 hi,e2 hf,hv];simp only[Ql1,Qc1,decide_eq_true_eq,X10,Qp1,and_true,true_and];omega
end av
end Fi.S
