import Derived.Test.YtbbogkfadofneaaGreatDoorDA
import Derived.Test.YtbbogkfadofneaaGreatDoorCX
set_option linter.unusedVariables false
set_option linter.unusedSimpArgs false
noncomputable section
namespace Fi.S
open Go Fi
set_option maxHeartbeats 8000000
set_option maxRecDepth 10000
variable {α:Type} {e:α->W}
end Fi.S
noncomputable section
namespace Fi.S
open Go Fi
set_option maxHeartbeats 8000000
set_option maxRecDepth 10000
section agd
variable {α:Type} {e:α->W}
end agd
def bN:Nat->Nat
 | 0=>640
 | j+1=>10*(20*(640*bN j))
theorem OH {j:Nat}(h:j<=4):bN j<=bN 4:=by
 match j,h with
 | 0,_=>decide
 | 1,_=>decide
 | 2,_=>decide
 | 3,_=>decide
 | 4,_=>exact Qd1 _
theorem V3 {j:Nat}(h:j<=6):6 ^ j<=46656:=Qc2 (Qt0 ae h) cK
section vals
variable {kk:Int} {ps:List Int}
def Wt (kk:Int)(ps:List Int)(x:List Sv):Prop:=gY 3 20 (dW kk ps) x/\Ej 6 640 x
theorem Wt.gd {x:List Sv}(h:Wt kk ps x):Ei (dW kk ps) x:=⟨3,20,ae,ae,h.1⟩
theorem JV (hv:aK kk ps=true){D N M:Nat}(hD:0<D)(hD2:D<4294967296 ^ 3)(hN:N<4294967296 ^ 3)(hM:M<4294967296 ^ 3){x y:List Sv}(hx:Ei (dW kk ps) x)(fx:Ej D N x)(hy:Ei (dW kk ps) y)(fy:Ej D M y) :
  Ca E1 19 [.d (aT kk ps),.d (cO kk x).d,.d (cO kk y).d] (.d (cO kk (bV (dW kk ps) x y)).d,none) :=
 JB hv (S:=3) (M:=216) ae ae (xw (aU hv) hx fx hD hD2 hN) (xw (aU hv) hy fy hD hD2 hM)
end vals
end Fi.S
noncomputable section
namespace Fi.S
open Go Fi
set_option maxHeartbeats 8000000
set_option maxRecDepth 10000
def nN (sy:Int)(l:List Int):List Int:=(l.take 4).map fun x=>1+x % sy
theorem yR (sy:Int)(l:List Int):(nN sy l).length<=4:=by
 unfold nN;rw[Ql0,Qr0];omega
theorem V4 (sy:Int)(hsy:2<=sy/\sy<=3)(l:List Int)(hl:∀ x ∈ l,gy x):Ca E1 1018 [.d (.s 1 (LK .i64 l)),dI sy,dI 4] (.d (.s 1 (LK .i64 (nN sy l))),none):=by
 have md:∀ x ∈ l,Ca E1 46 [dI x,dI sy] (dI (x % sy),none):=fun x hx=>Ca.ib (jr x sy (hl x hx) ae ae)
 have wa:∀ x:Int,ai .i64 (1+x % sy)=1+x % sy:=fun x=>wrap_i64 (by
  have h1:=Qo1 x (show sy≠0 by omega);have h2:=Ql2 x (show 0<sy by omega);omega)
 have wr4:ai .i64 4=4:=wrap_i64 ae
 match l,md with
 | [],_ =>
  refine Ca.bP (n:=200) ?_;rw[av rfl (k1018:E1.fn _=_) rfl];simp[aC,f1018,nN,LK]
 | [a],md =>
  obtain⟨N,t⟩:=(md a aA).any;replace t:=t N (Qd1 _);refine Ca.bP (n:=N+200) ?_;rw[av rfl (k1018:E1.fn _=_) rfl];simp[aC,f1018,nN,LK,t,wa,MB,most,ah.view]
 | [a,b],md =>
  obtain⟨K,hK,t1,t2⟩:=((md a aA).j ((md b aA).any)).at 0;refine Ca.bP (n:=K+200) ?_;rw[av rfl (k1018:E1.fn _=_) rfl];simp[aC,f1018,nN,LK,t1,t2,wa,MB,wr2,most,ah.view]
 | [a,b,c],md =>
  obtain⟨K,hK,t1,t2,t3⟩:=((md a aA).j ((md b aA).j ((md c aA).any))).at 0;refine Ca.bP (n:=K+200) ?_;rw[av rfl (k1018:E1.fn _=_) rfl];simp[aC,f1018,nN,LK,t1,t2,t3,wa,MB,wr2,wr3,most,ah.view]
 | a::b::c::d::r,md =>
  obtain⟨K,hK,t1,t2,t3,t4⟩:=((md a aA).j ((md b aA).j ((md c aA).j ((md d aA).any)))).at 0;refine Ca.bP (n:=K+200) ?_;rw[av rfl (k1018:E1.fn _=_) rfl];have e:LK .i64 (nN sy (a::b::c::d::r))=[vI (1+a % sy),vI (1+b % sy),vI (1+c % sy),vI (1+d % sy)]:=by simp[LK,nN]
  rw[e];have x0:(LK .i64 (a::b::c::d::r))[0]?=some (vI a):=rfl;have x1:(LK .i64 (a::b::c::d::r))[1]?=some (vI b):=rfl;have x2:(LK .i64 (a::b::c::d::r))[2]?=some (vI c):=rfl;have x3:(LK .i64 (a::b::c::d::r))[3]?=some (vI d):=rfl;have hlen:(LK .i64 (a::b::c::d::r)).length=(a::b::c::d::r).length:=by simp[LK]
  have h3:4<=(a::b::c::d::r).length:=aA;generalize (a::b::c::d::r).length=n at*;generalize LK .i64 (a::b::c::d::r)=xs at*;have i0:=idx x0;have i1:=idx x1;have i2:=idx x2;have i3:=idx x3;have n0:0<n:=ae;have n1:1<n:=ae;have n2:2<n:=ae;have n3:3<n:=ae;have m0:(0:Int)<n:=ae;have m1:(1:Int)<n:=ae;have m2:(2:Int)<n:=ae;have m3:(3:Int)<n:=ae
  by_cases h:(4:Int)<n
  ·simp (maxSteps:=400000) [aC,f1018,t1,t2,t3,t4,wa,MB,wr2,wr3,wr4,most,ah.view,x0,x1,x2,x3,i0,i1,i2,i3,hlen,n0,n1,n2,n3,m0,m1,m2,m3,h]
  ·simp (maxSteps:=400000) [aC,f1018,t1,t2,t3,t4,wa,MB,wr2,wr3,wr4,most,ah.view,x0,x1,x2,x3,i0,i1,i2,i3,hlen,n0,n1,n2,n3,m0,m1,m2,m3,h]
theorem QQ {kk:Int}{ps:List Int}(hv:aK kk ps=true)(v:Int):gY 3 20 (dW kk ps) (rQ kk ps v):=by
 have h:=Ff hv v;have hf:=Dg hv v;refine⟨h.1,fun i k x hk hx => ?_⟩;have g1:=h.2 i k x hk hx;have g2:=MS (T:=3) (aU hv k (Qa2 hk)) g1 (hf x (Qa2 hx)) ae ae ae;cases x with
 | q a=>exact⟨g2.1,g2.2⟩
 | c i n=>exact g2
 | s u=>exact g2
 | p l=>exact⟨g2.1,g2.2.1,Qc2 g1.2.2 ae⟩
def yS (kk:Int)(ps:List Int)(l:List Int)(i one:Nat):List Sv :=
 match l[i]? with
 | some v=>rQ kk ps v
 | none=>if i=one then Fj kk ps else bW kk ps
theorem V5 {kk:Int}{ps:List Int}(hv:aK kk ps=true)(l:List Int)(hl:∀ x ∈ l,gy x)(i one:Nat):Ca E1 1075 [.d (aT kk ps),.d (.s 1 (LK .i64 l)),dI i,dI one] (.d (cO kk (yS kk ps l i one)).d,none):=by
 have n1:(LK .i64 l).length=l.length:=by simp[LK]
 have i0:(0:Int)<=(i:Int):=ae;unfold yS;cases h:l[i]? with
 | some v =>
  have hi:=(bq h)
  have e1:(LK .i64 l)[i]?=some (vI v):=by simp[LK,h]
  have hic:(i:Int)<(l.length:Int):=ae;obtain⟨N,t⟩:=(Jz hv v (hl v (Qa2 h))).get;show Ca E1 1075 _ (.d (cO kk (rQ kk ps v)).d,none);generalize cO kk (rQ kk ps v)=w at*;refine Ca.bP (n:=N+100) ?_;rw[av rfl (k1075:E1.fn _=_) rfl];obtain⟨ws,l1,l2,c,b,u,p,q,ew⟩:=w.aN;rw[ew]at t ⊢;unfold aT wD at*;generalize LK .i64 ps=l9,LK .i64 l=l8 at*;have i1:=idx e1;simp[f1075,t,n1,e1,i1,hi,hic,i0]
 | none =>
  have hi:l.length<=i:=by simpa using h
  have hic:¬ (i:Int)<(l.length:Int):=ae;show Ca E1 1075 _ (.d (cO kk (if i=one then Fj kk ps else bW kk ps)).d,none)
  by_cases ho:i=one
  ·rw[if_pos ho];subst ho;obtain⟨N,t⟩:=(Zc hv).2.get;rw[show(dW kk ps).map pU=Fj kk ps from rfl]at t;generalize cO kk (Fj kk ps)=w at*;refine Ca.bP (n:=N+100) ?_;rw[av rfl (k1075:E1.fn _=_) rfl];obtain⟨ws,l1,l2,c,b,u,p,q,ew⟩:=w.aN;rw[ew]at t ⊢;unfold aT wD at*;generalize LK .i64 ps=l9,LK .i64 l=l8 at*;simp[f1075,t,n1,hic]
  ·rw[if_neg ho];obtain⟨N,t⟩:=(AJ hv).get;rw[show(dW kk ps).map dH=bW kk ps from rfl]at t;have hne:((i:Int)==(one:Int))=false:=by simp;omega
   generalize cO kk (bW kk ps)=w at*;refine Ca.bP (n:=N+100) ?_;rw[av rfl (k1075:E1.fn _=_) rfl];obtain⟨ws,l1,l2,c,b,u,p,q,ew⟩:=w.aN;rw[ew]at t ⊢;unfold aT wD at*;simp[f1075,t,n1,hic,hne]
theorem V6 {kk:Int}{ps:List Int}(hv:aK kk ps=true)(l:List Int)(i one:Nat):Wt kk ps (yS kk ps l i one):=by
 unfold yS;cases l[i]? with
 | some v=>exact⟨QQ hv v,(Dg hv v).mono ae⟩
 | none =>
  show Wt kk ps (if i=one then Fj kk ps else bW kk ps);split
  ·exact⟨Jv ae ae (aU hv),ZP (aU hv) ae⟩
  ·exact⟨mF ae (aU hv),JS (aU hv) _ _⟩
end Fi.S
noncomputable section
namespace Fi.S
open Go Fi
set_option maxHeartbeats 8000000
set_option maxRecDepth 10000
def moD (st:Int)(li lf la:List Int):D:=.a [vI st,.s 1 (LK .i64 li),.s 1 (LK .i64 lf),.s 1 (LK .i64 la),vB false]
def eu (st:Int)(li lf la:List Int):ah:=.box [dI st,.d (.s 1 (LK .i64 li)),.d (.s 1 (LK .i64 lf)),.d (.s 1 (LK .i64 la)),dB false]
def fH (kk:Int)(ps:List Int):ah:=.box [dI kk,.d (.s 1 (LK .i64 ps))]
def vU:ah:=.box [dI 0,.d (.n 1),dI 0,dI 0,.d (.n 8),.d (.n 8),.d (.n 11)]
def OI (kk:Int)(ps:List Int)(sy:Int)(n:Nat)(x y w:FV):ah:=.box [dI kk,.d (.s 1 (LK .i64 ps)),dI sy,dI n,x,y,w]
def QR (sy:Int)(n:Nat)(L:List ah)(j:Nat)(t:FV):St :=
 (st0 [.u,.u,dI sy,.u,rL 0,rL 1,rL 2,dI n,rL 3,dI j,.u,.u,t,.u,.u] L)
def mL1:aF:=f1028.body.r.r.r.l.r.bl.lp
def mH (M R:ah)(kk:Int)(ps:List Int)(sy:Int)(n:Nat)(is fs:List D):List ah :=
 if is.length=0 then [M,R,vU,OI kk ps sy n (.d (.n 8)) (.d (.n 8)) (.d (.n 11))]
 else [M,R,vU,OI kk ps sy n (.ls (.loc 4) (is.length-1) 8 0 is.length) (.ls (.loc 5) (is.length-1) 8 0 is.length) (.d (.n 11)),.row (is.length-1) 8 is,.row (is.length-1) 8 fs]
theorem V7 (st:Int)(li lf la:List Int)(kk:Int)(ps:List Int)(sy:Int)(n j:Nat)(hj:j<n)(hn:n<=4)(is fs:List D)(hi:is.length=j)(hf:fs.length=j)(w v:W)
  (h1:Ca E1 1075 [.d (aT kk ps),.d (.s 1 (LK .i64 li)),dI j,dI 0] (.d w.d,none))
  (h2:Ca E1 1075 [.d (aT kk ps),.d (.s 1 (LK .i64 lf)),dI j,dI ((n:Int)-1)] (.d v.d,none)) :
  Ex E1 mL1 (QR sy n (mH (eu st li lf la) (fH kk ps) kk ps sy n is fs) j .u) (.norm,QR sy n (mH (eu st li lf la) (fH kk ps) kk ps sy n (is++[w.d]) (fs++[v.d])) (j+1) .u):=by
 obtain⟨K,hK,t1,t2⟩:=(h1.j h2.any).at 0;have hjn:(j:Int)<(n:Int):=ae;have hw:ai .i64 ((j:Int)+1)=(j:Int)+1:=wrap_i64 ae;have hw2:ai .i64 ((n:Int)-1)=(n:Int)-1:=wrap_i64 ae;have hj1:((j+1:Nat):Int)=(j:Int)+1:=ae;have hl1:(is++[w.d]).length=j+1:=by simp[hi]
 refine Ex.of (n:=K+300) ?_;obtain⟨ws,l1,l2,c,b,u,p,q,ew⟩:=w.aN;obtain⟨vs,k1,k2,c',b',u',p',q',ev⟩:=v.aN;unfold QR mH;rw[hl1,if_neg (show ¬ j+1=0 by omega),hi,hj1,Q02];rw[ew]at t1 ⊢;rw[ev]at t2 ⊢;clear h1 h2 ew ev;unfold eu fH vU OI aT wD at*;cases j with
 | zero =>
  have e1:is=[]:=Xf2.1 hi;have e2:fs=[]:=Xf2.1 hf;subst e1 e2;have z0:((0:Nat):Int)=0:=rfl;rw[z0]at t1 t2 hw ⊢;rw[if_pos rfl];simp (maxSteps:=400000) [mL1,f1028,t1,t2,hw,hw2,hj,hjn,MB,most]
 | succ k =>
  have hk:((k+1:Nat):Int)=(k:Int)+1:=ae;rw[if_neg (show ¬ k+1=0 by omega),Q02];rw[hk]at t1 t2 hw hjn ⊢;have tk1:is.take (k+1)=is:=Qe1 ae;have tk2:fs.take (k+1)=fs:=Qe1 ae;have m1:(k+1+1)*128<=1099511627776:=ae;have m2:k+1+1<=1099511627776:=ae;simp (maxSteps:=400000) [mL1,f1028,t1,t2,hw,hw2,hj,hjn,hi,hf,tk1,tk2,most,m1,m2]
theorem ZQ (st:Int)(li lf la:List Int)(kk:Int)(ps:List Int)(sy:Int)(n:Nat)(hn:0<n)(is fs:List D)(hi:is.length=n) :
  Ex E1 mL1 (QR sy n (mH (eu st li lf la) (fH kk ps) kk ps sy n is fs) n .u) (.exit 0,QR sy n (mH (eu st li lf la) (fH kk ps) kk ps sy n is fs) n (dB false)):=by
 refine Ex.of (n:=100) ?_;unfold QR mH;rw[hi,if_neg ae];unfold eu fH vU OI;simp (maxSteps:=400000) [mL1,f1028]
def QS (sy:Int)(n:Nat)(L:List ah)(j:Nat)(t:FV):St :=
 (st0 [.u,.u,dI sy,.u,rL 0,rL 1,rL 2,dI n,rL 3,.u,dI (4*j),.u,.u,t,.u] L)
def mL2:aF:=f1028.body.r.r.r.r.l.r.bl.lp
def mA (M R:ah)(kk:Int)(ps:List Int)(sy:Int)(n:Nat)(is fs as':List D):List ah :=
 if as'.length=0 then [M,R,vU,OI kk ps sy n (.ls (.loc 4) (n-1) 8 0 n) (.ls (.loc 5) (n-1) 8 0 n) (.d (.n 11)),.row (n-1) 8 is,.row (n-1) 8 fs]
 else [M,R,vU,OI kk ps sy n (.ls (.loc 4) (n-1) 8 0 n) (.ls (.loc 5) (n-1) 8 0 n) (.ls (.loc 6) (as'.length-1) 11 0 as'.length),.row (n-1) 8 is,.row (n-1) 8 fs,.row (as'.length-1) 11 as']
variable {α:Type} {e:α->W}
theorem V8 (st:Int)(li lf la:List Int)(kk:Int)(ps:List Int)(sy:Int)(n j:Nat)(hn:0<n/\n<=4)(hsy:1<=sy/\sy<=32)(is fs as':List D)(ha:as'.length=j)(hj:j<10)(v0 v1 v2 v3:Int) 
  (g0:la[4*j]?=some v0) (g1:la[4*j+1]?=some v1) (g2:la[4*j+2]?=some v2) (g3:la[4*j+3]?=some v3) (x:α)
  (h0:Ca E1 46 [dI v0,dI n] (dI (v0 % n),none)) (h1:Ca E1 46 [dI v1,dI sy] (dI (v1 % sy),none))
  (h2:Ca E1 46 [dI v2,dI n] (dI (v2 % n),none)) (h3:Ca E1 16 [.d (aT kk ps),dI v3] (.d (e x).d,none)) :
  Ex E1 mL2 (QS sy n (mA (eu st li lf la) (fH kk ps) kk ps sy n is fs as') j .u) (.norm,QS sy n (mA (eu st li lf la) (fH kk ps) kk ps sy n is fs (as'++[Ar.d e ⟨v0 % n,1+v1 % sy,v2 % n,x⟩])) (j+1) .u):=by
 obtain⟨K,hK,t0,t1,t2,t3⟩:=(h0.j (h1.j (h2.j h3.any))).at 0;have q3:=(bq g3)
 have hlen:(LK .i64 la).length=la.length:=by simp[LK]
 have e0:(LK .i64 la)[4*j]?=some (vI v0):=by simp[LK,g0]
 have e1:(LK .i64 la)[4*j+1]?=some (vI v1):=by simp[LK,g1]
 have e2:(LK .i64 la)[4*j+2]?=some (vI v2):=by simp[LK,g2]
 have e3:(LK .i64 la)[4*j+3]?=some (vI v3):=by simp[LK,g3]
 have r1:=Qo1 v1 (show sy≠0 by omega);have r2:=Ql2 v1 (show 0<sy by omega);have hw1:ai .i64 (1+v1 % sy)=1+v1 % sy:=wrap_i64 ae;have hl1:(as'++[Ar.d e ⟨v0 % n,1+v1 % sy,v2 % n,x⟩]).length=j+1:=by simp[ha]
 have u1:((4*j+1:Nat):Int)=4*(j:Int)+1:=ae;have c4:4*((j+1:Nat):Int)=4*(j:Int)+4:=ae;refine Ex.of (n:=K+400) ?_;obtain⟨s,a1,a2,ac,ab,au,ap,aq,ew,ea⟩:=Ar.gD e (⟨v0 % n,1+v1 % sy,v2 % n,x⟩:Ar α);simp only at ew;unfold QS mA;rw[hl1,if_neg (show ¬ j+1=0 by omega),ha,c4,Q02,ea];rw[ew]at t3;clear h0 h1 h2 h3 ew ea hl1;unfold eu fH vU OI aT wD tX at*;simp only;generalize v1 % sy=w1 at*;generalize v0 % (n:Int)=w0 at*;generalize v2 % (n:Int)=w2 at*;have p0:4*j<la.length:=ae;have p1:4*j+1<la.length:=ae;have p2:4*j+2<la.length:=ae;obtain⟨k,hk⟩:∃ k:Nat,k=4*j:=⟨_,rfl⟩
 have hkI:4*(j:Int)=(k:Int):=ae;have alA:k<=36:=ae;have hkl:k+3<la.length:=ae;rw[<-hk]at e0 e1 e2 e3 p0 p1 p2 q3;rw[hkI];have i0:=idx e0;have i1:=idx e1;have i2:=idx e2;have i3:=idx e3;have s1:ai .i64 ((k:Int)+1)=(k:Int)+1:=wrap_i64 ae;have s2:ai .i64 ((k:Int)+2)=(k:Int)+2:=wrap_i64 ae;have s3:ai .i64 ((k:Int)+3)=(k:Int)+3:=wrap_i64 ae;have s4:ai .i64 ((k:Int)+4)=(k:Int)+4:=wrap_i64 ae;have b0:(0:Int)<=(k:Int):=ae;have b1:(0:Int)<=(k:Int)+1:=ae;have b2:(0:Int)<=(k:Int)+2:=ae;have b3:(0:Int)<=(k:Int)+3:=ae;have k0:(k:Int)<(la.length:Int):=ae;have k1:(k:Int)+1<(la.length:Int):=ae;have k2:(k:Int)+2<(la.length:Int):=ae;have k3:(k:Int)+3<(la.length:Int):=ae;have k4:(k:Int)<40:=ae;have d1:((k:Int)+1).toNat=k+1:=ae;have d2:((k:Int)+2).toNat=k+2:=ae;have d3:((k:Int)+3).toNat=k+3:=ae;cases j with
 | zero =>
  have e1:as'=[]:=Xf2.1 ha;subst e1;rw[if_pos rfl];simp (maxSteps:=800000) [mL2,f1028,t0,t1,t2,t3,hw1,hlen,e0,e1,e2,e3,i0,i1,i2,i3,p0,p1,p2,q3,s1,s2,s3,s4,b0,b1,b2,b3,k0,k1,k2,k3,k4,d1,d2,d3,most]
 | succ m =>
  rw[if_neg (show ¬ m+1=0 by omega),Q02];have tk:as'.take (m+1)=as':=Qe1 ae;have m1:(m+1+1)*152<=1099511627776:=ae;have m2:m+1+1<=1099511627776:=ae;simp (maxSteps:=800000) [mL2,f1028,t0,t1,t2,t3,hw1,hlen,e0,e1,e2,e3,i0,i1,i2,i3,p0,p1,p2,q3,s1,s2,s3,s4,b0,b1,b2,b3,k0,k1,k2,k3,k4,d1,d2,d3,ha,tk,most,m1,m2]
theorem ZR (st:Int)(li lf la:List Int)(kk:Int)(ps:List Int)(sy:Int)(n j:Nat)(is fs as':List D)(hj:j<=10)(h:la.length<4*j+4\/j=10) :
  Ex E1 mL2 (QS sy n (mA (eu st li lf la) (fH kk ps) kk ps sy n is fs as') j .u) (.exit 2,QS sy n (mA (eu st li lf la) (fH kk ps) kk ps sy n is fs as') j (dB false)):=by
 have hlen:(LK .i64 la).length=la.length:=by simp[LK]
 have s3:ai .i64 (4*(j:Int)+3)=4*(j:Int)+3:=wrap_i64 ae;refine Ex.of (n:=200) ?_;unfold QS mA;unfold eu fH vU OI
 by_cases h1:4*(j:Int)+3<(la.length:Int)
 ·have h2:¬ 4*(j:Int)<40:=ae;split<;>simp (maxSteps:=400000) [mL2,f1028,hlen,s3,h1,h2]
 ·split<;>simp (maxSteps:=400000) [mL2,f1028,hlen,s3,h1]
def Ad (kk:Int)(ps:List Int)(l:List Int)(one n:Nat):List (List Sv):=(List.range n).map fun i=>yS kk ps l i one
def agf (kk:Int)(ps:List Int)(sy:Int)(n:Nat)(la:List Int)(j:Nat):Ar (List Sv):=⟨la.getD (4*j) 0 % n,1+la.getD (4*j+1) 0 % sy,la.getD (4*j+2) 0 % n,rQ kk ps (la.getD (4*j+3) 0)⟩
def Dh (la:List Int):Nat:=min 10 (la.length / 4)
def xx (kk:Int)(ps:List Int)(sy:Int)(n:Nat)(la:List Int):List (Ar (List Sv)):=(List.range (Dh la)).map (agf kk ps sy n la)
theorem JW (kk:Int)(ps l:List Int)(one n:Nat):(Ad kk ps l one n).length=n:=by simp[Ad]
theorem QT (kk:Int)(ps:List Int)(sy:Int)(n:Nat)(la:List Int):(xx kk ps sy n la).length<=10:=by simp[xx,Dh];omega
end Fi.S
noncomputable section
namespace Fi.S
open Go Fi
set_option maxHeartbeats 8000000
set_option maxRecDepth 10000
theorem adq {k:Int}(hk:single k=true){S M:Nat}{x:Sv}(hx:x.of k S M)(h:x.w=(dH k).w):x=dH k:=by
 rcases aO hk with rfl|rfl|rfl|rfl|rfl
 ·obtain⟨a,rfl,_⟩:=wP hx
  injection h with h1 h2 h3
  show Sv.q a=.q 0;rw[<-q9 a,h1,h2,h3,q9]
 ·obtain⟨i,n,rfl,_⟩:=wQ hx
  injection h with _ _ _ h1 h2
  show Sv.c i n=.c true 0;rw[h1,h2]
 ·obtain⟨a,rfl,_⟩:=wR hx
  injection h with h1 h2 h3
  show Sv.q a=.q 0;rw[<-q9 a,h1,h2,h3,q9]
 ·obtain⟨u,rfl,_⟩:=wS hx
  injection h with _ _ _ _ _ h1
  show Sv.s u=.s 0;rw[h1]
 ·obtain⟨a,rfl,_⟩:=wT hx
  injection h with _ _ _ _ _ _ h1
  have:a=[]:=Xq0.1 h1;rw[this];rfl
theorem V9 {kk:Int}{ps:List Int}(hv:aK kk ps=true){x:List Sv}(hx:Ei (dW kk ps) x)(h:yH kk ps x=true):x=bW kk ps:=by
 have he:=W.OC h;obtain⟨S,M,_,_,hx⟩:=hx;have hs:=aU hv;have hz:gY 1 1 (dW kk ps) (bW kk ps):=mF ae hs;refine lZ hx.1 hz.1 (fun i k a b hk ha hb => ?_);have hb':b=dH k:=nW hk hb;subst hb';refine adq (hs k (Qa2 hk)) (hx.2 i k a hk ha) ?_;unfold cO at he
 by_cases h6:kk=6
 ·rw[if_pos h6,if_pos h6]at he
  injection he with _ _ _ _ _ _ _ he
  have h1:(x.map Sv.w)[i]?=some a.w:=by rw[Qb2,ha];rfl
  have h2:((bW kk ps).map Sv.w)[i]?=some (dH k).w:=by rw[Qb2,hb];rfl
  rw[he,h2]at h1;exact(Qw1 h1).symm
 ·rw[if_neg h6,if_neg h6]at he;have hl:x.length=1:=by rw[hx.1];unfold dW;rw[if_neg h6];rfl
  have hi:i=0:=by have:=(bq ha);omega
  subst hi;have e1:x.headD (.q 0)=a:=by
   cases x with
   | nil=>cases ha
   | cons y r=>cases ha;rfl
  have e2:(bW kk ps).headD (.q 0)=dH k:=by
   cases hq:bW kk ps with
   | nil=>rw[hq]at hb;cases hb
   | cons y r=>rw[hq]at hb;cases hb;rfl
  rw[e1,e2]at he;exact he
def GF (kk:Int)(ps:List Int)(n:Nat)(x:List Sv):Prop:=1<=n/\Ei (dW kk ps) x/\Ej 6 (640*n) x
theorem GF.ofs {kk:Int}{ps:List Int}(hv:aK kk ps=true){n:Nat}{x:List Sv}(h:GF kk ps n x)(hn:n<=1000):gY 3 216 (dW kk ps) x:=xw (aU hv) h.2.1 h.2.2 ae ae ae
theorem Wt.gf {kk:Int}{ps:List Int}{x:List Sv}(h:Wt kk ps x):GF kk ps 1 x:=⟨Qd1 _,h.gd,h.2⟩
theorem adr {kk:Int}{ps:List Int}(hv:aK kk ps=true):RV kk ps (cO kk) (bV (dW kk ps)) (cO kk (bW kk ps)) (yH kk ps) (GF kk ps) 20 where
 mono n x h:=⟨ae,h.2.1,h.2.2.mono ae⟩
 zero:=Fe hv
 pz x h:=by
  have h3:=h.ofs hv ae;have:=Oq hv ae ae h3 (mF (M:=216) ae (aU hv));rw[Cr (S:=3) (M:=216) ae (aU hv) h3]at this;exact this
 tk x h:=wU hv ae ae (h.ofs hv ae)
 p1 n x y hn hx hy:=Oq hv (S:=3) (M:=216) ae ae (hx.ofs hv ae) (hy.ofs hv ae)
 p2 n x y hn hx hy:=JB hv (S:=3) (M:=216) ae ae (hx.ofs hv ae) (hy.ofs hv ae)
 pg n x y hn hx hy:=by
  have h1:=hx.1;refine⟨ae,(MQ (aU hv)).pp hx.2.1 hy.2.1,?_⟩;exact(xn (aU hv) hx.2.1 hy.2.1 hx.2.2 hy.2.2).mono ae
 z1 n x hn hx:=(Vq hv ae (hx.ofs hv ae)).1
 z2 n x hn hx:=(Vq hv ae (hx.ofs hv ae)).2
theorem Fx {kk:Int}{ps:List Int}(hv:aK kk ps=true){S M D N T:Nat}{x:List Sv}(h:gY S M (dW kk ps) x)(hf:Ej D N x)(hD:0<D)(hDT:D<4294967296 ^ T)(hN:N<4294967296 ^ T):gY T M (dW kk ps) x:=by
 refine⟨h.1,fun i k x hk hx => ?_⟩;have g1:=h.2 i k x hk hx;have g2:=MS (T:=T) (aU hv k (Qa2 hk)) g1 (hf x (Qa2 hx)) hD hDT hN;cases x with
 | q a=>exact⟨g2.1,g2.2⟩
 | c i n=>exact g2
 | s u=>exact g2
 | p l=>exact⟨g2.1,g2.2.1,g1.2.2⟩
section aI
variable {kk:Int} {ps:List Int} (hv:aK kk ps=true)
include hv
structure JX (kk:Int)(ps:List Int)(sy n:Nat)(a:Ar (List Sv)):Prop where
 f:0<=a.f/\a.f<n
 l:1<=a.l/\a.l<=sy
 t:0<=a.t/\a.t<n
 x:gY 9 2 (dW kk ps) a.x
 fr:Ej 6 64 a.x
theorem JX.wt {sy n:Nat}{a:Ar (List Sv)}(h:JX kk ps sy n a):Wt kk ps a.x:=⟨(Fx (T:=3) hv h.x h.fr ae ae ae).mono ae ae,h.fr.mono ae⟩
theorem V_ {sy n:Nat}{dP:List Sv->Bool}{l:List (Ar (List Sv))}(h:∀ a ∈ l,JX kk ps sy n a)(hl:l.length<=10):∀ a ∈ iU (bV (dW kk ps)) dP l,Wt kk ps a.x/\(0<=a.f/\a.f<n)/\(1<=a.l/\a.l<=sy)/\(0<=a.t/\a.t<n):=by
 let Q:Nat->Ar (List Sv)->Prop:=fun j a=>gY (10*j+1) (2*j) (dW kk ps) a.x/\Ej 6 (64*j) a.x/\(0<=a.f/\a.f<n)/\(1<=a.l/\a.l<=sy)/\(0<=a.t/\a.t<n)
 have A:=MQ (aU hv);have key:∀ (l:List (Ar (List Sv))) (p:List (Ar (List Sv))) (j:Nat),(∀ a ∈ l,JX kk ps sy n a)->(∀ a ∈ p,Q j a)->∀ a ∈ l.foldl (fun p x=>bH (bV (dW kk ps)) x p) p,Q (j+l.length) a:=by
  intro l
  induction l with
  | nil=>intro p j _ hp;exact hp
  | cons x l ih =>
   intro p j hl hp;have hx:=hl x aA;rw[Qj2,show j+(x::l).length=(j+1)+l.length by simp;omega];refine ih _ (j+1) (fun a ha=>hl a (by simp[ha])) ?_;refine mR (bV (dW kk ps)) x (Q j) (Q (j+1)) ⟨hx.x.mono ae ae,hx.fr.mono ae,hx.f,hx.l,hx.t⟩ (fun y hy=>⟨hy.1.mono ae ae,hy.2.1.mono ae,hy.2.2⟩) (fun y hy=>⟨?_,?_,hy.2.2⟩) p hp
   ·exact(CJ ae ae (aU hv) hy.1 hx.x).mono ae ae
   ·refine(xn (aU hv) ⟨_,_,ae,?_,hy.1.mono (Qd1 _) (show 2*j<=2*j+1 by omega)⟩ ⟨_,_,ae,ae,hx.x⟩ hy.2.1 hx.fr).mono ae;omega
 intro a ha;have h2:=key l [] 0 h (fun a ha=>by cases ha) a (Qz1.1 ha).1;rw[Qx1]at h2;obtain⟨g1,g2,g3⟩:=h2;exact⟨⟨(Fx hv (T:=3) g1 g2 ae ae ae).mono ae ae,g2.mono ae⟩,g3⟩
theorem MU (sy:Nat)(hsy:1<=sy)(n:Nat)(hn:0<n)(la:List Int):∀ a ∈ xx kk ps sy n la,JX kk ps sy n a:=by
 intro a ha;obtain⟨j,hj,rfl⟩:=Qi1.1 ha;have r:∀ v:Int,0<=v % (n:Int)/\v % (n:Int)<(n:Int):=fun v=>⟨Qo1 v (show(n:Int)≠0 by omega),Ql2 v (show 0<(n:Int) by omega)⟩
 have r2:∀ v:Int,0<=v % (sy:Int)/\v % (sy:Int)<(sy:Int):=fun v=>⟨Qo1 v (show(sy:Int)≠0 by omega),Ql2 v (show 0<(sy:Int) by omega)⟩
 have q:=r2 (la.getD (4*j+1) 0);exact⟨r _,⟨by show 1<=1+_;omega,by show 1+_<=_;omega⟩,r _,Ff hv _,Dg hv _⟩
theorem JY {x:List Sv}(h:Wt kk ps x):(cO kk x).OK/\cZ kk ps (cO kk x)=true:=⟨Jw hv ae h.1,Cs hv h.1⟩
theorem QU {sy n:Nat}(hsy:1<=sy/\sy<=32)(hn:n<=64){bJ fin:List (List Sv)}{aI:List (Ar (List Sv))}(h1:bJ.length=n)(h2:fin.length=n)(hi:∀ x ∈ bJ,Wt kk ps x)(hf:∀ x ∈ fin,Wt kk ps x)(ha:aI.length<=2048)
  (hw:∀ a ∈ aI,Wt kk ps a.x/\(0<=a.f/\a.f<n)/\(1<=a.l/\a.l<=sy)/\(0<=a.t/\a.t<n)) :
  MJ kk ps sy n (bJ.map (cO kk)) (fin.map (cO kk)) (cO kk) aI=true:=by
 have e1:aI.all (pW kk ps sy n (cO kk))=true:=by
  rw[Qh2];intro a ha;obtain⟨g1,g2,g3,g4⟩:=hw a ha;unfold pW Zv;rw[(JY hv g1).2];simp only[X41,Qb1,decide_eq_true_eq];omega
 have e2:∀ {l:List (List Sv)},(∀ x ∈ l,Wt kk ps x)->(l.map (cO kk)).all (cZ kk ps)=true:=by
  intro l h;rw[Qh2];intro w hw;obtain⟨x,hx,rfl⟩:=Qi1.1 hw;exact(JY hv (h x hx)).2
 unfold MJ Ow;rw[e1,e2 hi,e2 hf,hv];simp only[Ql0,Qb1,decide_eq_true_eq,X41,Qr2,and_true,true_and];omega
end aI
end Fi.S
