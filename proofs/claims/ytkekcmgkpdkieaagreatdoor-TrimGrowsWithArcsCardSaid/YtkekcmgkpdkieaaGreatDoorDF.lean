import Derived.Test.YtkekcmgkpdkieaaGreatDoorDE
set_option linter.unusedVariables false
set_option linter.unusedSimpArgs false
noncomputable section
noncomputable section
namespace Fi.S
open Go Fi
set_option maxHeartbeats 8000000
set_option maxRecDepth 10000
def afM (st:Int)(li lf la:List Int):D:=.a [.v (.int .i64 st),.s 1 (LK .i64 li),.s 1 (LK .i64 lf),.s 1 (LK .i64 la),.v (.bool true)]
def bN (st:Int)(li lf la:List Int):ae:=.box [.d (.v (.int .i64 st)),.d (.s 1 (LK .i64 li)),.d (.s 1 (LK .i64 lf)),.d (.s 1 (LK .i64 la)),.d (.v (.bool true))]
theorem abA (st:Int)(li lf la:List Int)(kk:Int)(ps:List Int)(sy:Int)(n j:Nat)(hj:j<n)(hn:n<=4)(is fs:List D)(hi:is.length=j)(hf:fs.length=j)(w v:W)
  (h1:Ca E1 1075 [.d (bA kk ps),.d (.s 1 (LK .i64 li)),.d (.v (.int .i64 j)),.d (.v (.int .i64 0))] (.d w.d,none))
  (h2:Ca E1 1075 [.d (bA kk ps),.d (.s 1 (LK .i64 lf)),.d (.v (.int .i64 j)),.d (.v (.int .i64 ((n:Int)-1)))] (.d v.d,none)) :
  Ex E1 cO (Q4 sy n (mH (bN st li lf la) (dD kk ps) kk ps sy n is fs) j .u) (.norm,Q4 sy n (mH (bN st li lf la) (dD kk ps) kk ps sy n (is++[w.d]) (fs++[v.d])) (j+1) .u):=by
 obtain⟨K,hK,t1,t2⟩:=(h1.j h2.any).at 0;have hjn:(j:Int)<(n:Int):=by omega
 have hw:ah .i64 ((j:Int)+1)=(j:Int)+1:=wrap_i64 (by omega);have hw2:ah .i64 ((n:Int)-1)=(n:Int)-1:=wrap_i64 (by omega);have hj1:((j+1:Nat):Int)=(j:Int)+1:=by omega
 have hl1:(is++[w.d]).length=j+1:=by simp[hi]
 refine Ex.of (n:=K+300) ?_;obtain⟨ws,l1,l2,c,b,u,p,q,ew⟩:=w.aN;obtain⟨vs,k1,k2,c',b',u',p',q',ev⟩:=v.aN;unfold Q4 mH;rw[hl1,if_neg (show ¬ j+1=0 by omega),hi,hj1,Qy2];rw[ew]at t1 ⊢;rw[ev]at t2 ⊢;clear h1 h2 ew ev;unfold bN dD Hq Nc bA wD at*;generalize LK .i64 ps=l9,LK .i64 li=l8,LK .i64 lf=l7,LK .i64 la=l6 at*;cases j with
 | zero =>
  have e1:is=[]:=Qz0.1 hi;have e2:fs=[]:=Qz0.1 hf;subst e1 e2;have z0:((0:Nat):Int)=0:=rfl;rw[z0]at t1 t2 hw ⊢;rw[if_pos rfl];simp (maxSteps:=400000) -implicitDefEqProofs[cO,f1028,t1,t2,hw,hw2,hj,hjn,MQ,most]
 | succ k =>
  have hk:((k+1:Nat):Int)=(k:Int)+1:=by omega
  rw[if_neg (show ¬ k+1=0 by omega),Qy2];rw[hk]at t1 t2 hw hjn ⊢;have ZE:is.take (k+1)=is:=Qe2 (by omega);have ZG:fs.take (k+1)=fs:=Qe2 (by omega);have m1:(k+1+1)*128<=1099511627776:=by omega
  have m2:k+1+1<=1099511627776:=by omega
  simp (maxSteps:=400000) -implicitDefEqProofs[cO,f1028,t1,t2,hw,hw2,hj,hjn,hi,hf,ZE,ZG,most,m1,m2]
theorem adq (st:Int)(li lf la:List Int)(kk:Int)(ps:List Int)(sy:Int)(n:Nat)(hn:0<n)(is fs:List D)(hi:is.length=n) :
  Ex E1 cO (Q4 sy n (mH (bN st li lf la) (dD kk ps) kk ps sy n is fs) n .u) (.exit 0,Q4 sy n (mH (bN st li lf la) (dD kk ps) kk ps sy n is fs) n (.d (.v (.bool false)))):=by
 refine Ex.of (n:=100) ?_;unfold Q4 mH;rw[hi,if_neg (by omega)];unfold bN dD Hq Nc;generalize LK .i64 ps=l9,LK .i64 li=l8,LK .i64 lf=l7,LK .i64 la=l6 at*;simp (maxSteps:=400000) -implicitDefEqProofs[cO,f1028]
variable {α:Type} {e:α->W}
theorem abB (st:Int)(li lf la:List Int)(kk:Int)(ps:List Int)(sy:Int)(n j:Nat)(hn:0<n/\n<=4)(hsy:1<=sy/\sy<=32)(is fs as':List D)(ha:as'.length=j)(hj:j<10)(v0 v1 v2 v3:Int) 
  (g0:la[4*j]?=some v0) (g1:la[4*j+1]?=some v1) (g2:la[4*j+2]?=some v2) (g3:la[4*j+3]?=some v3) (x:α)
  (h0:Ca E1 46 [.d (.v (.int .i64 v0)),.d (.v (.int .i64 n))] (.d (.v (.int .i64 (v0 % n))),none)) (h1:Ca E1 46 [.d (.v (.int .i64 v1)),.d (.v (.int .i64 sy))] (.d (.v (.int .i64 (v1 % sy))),none)) (h4:Ca E1 46 [.d (.v (.int .i64 v1)),.d (.v (.int .i64 (sy+1)))] (.d (.v (.int .i64 (v1 % (sy+1)))),none))
  (h2:Ca E1 46 [.d (.v (.int .i64 v2)),.d (.v (.int .i64 n))] (.d (.v (.int .i64 (v2 % n))),none)) (h3:Ca E1 16 [.d (bA kk ps),.d (.v (.int .i64 v3))] (.d (e x).d,none)) :
  Ex E1 Mv (Q5 sy n (mA (bN st li lf la) (dD kk ps) kk ps sy n is fs as') j .u) (.norm,Q5 sy n (mA (bN st li lf la) (dD kk ps) kk ps sy n is fs (as'++[Ar.d e ⟨v0 % n,v1 % (sy+1),v2 % n,x⟩])) (j+1) .u):=by
 obtain⟨N0,t0⟩:=h0.any;obtain⟨N1,t1⟩:=h1.any;obtain⟨N2,t2⟩:=h2.any;obtain⟨N3,t3⟩:=h3.any;obtain⟨N4,t4⟩:=h4.any;obtain⟨K,hK⟩:∃ K,K=N0+N1+N2+N3+N4:=⟨_,rfl⟩
 replace t4:=t4 K (by omega);have hw4:ah .i64 (sy+1)=sy+1:=wrap_i64 (by omega);replace t0:=t0 K (by omega);replace t1:=t1 K (by omega);replace t2:=t2 K (by omega);replace t3:=t3 K (by omega);have q3:=(bD g3)
 have hlen:(LK .i64 la).length=la.length:=by simp[LK]
 have e0:(LK .i64 la)[4*j]?=some (.v (.int .i64 v0)):=by simp[LK,g0]
 have e1:(LK .i64 la)[4*j+1]?=some (.v (.int .i64 v1)):=by simp[LK,g1]
 have e2:(LK .i64 la)[4*j+2]?=some (.v (.int .i64 v2)):=by simp[LK,g2]
 have e3:(LK .i64 la)[4*j+3]?=some (.v (.int .i64 v3)):=by simp[LK,g3]
 have r1:=Qk2 v1 (show sy≠0 by omega);have r2:=Qj0 v1 (show 0<sy by omega);have hw1:ah .i64 (1+v1 % sy)=1+v1 % sy:=wrap_i64 (by omega);have hl1:(as'++[Ar.d e ⟨v0 % n,v1 % (sy+1),v2 % n,x⟩]).length=j+1:=by simp[ha]
 have u1:((4*j+1:Nat):Int)=4*(j:Int)+1:=by omega
 have c4:4*((j+1:Nat):Int)=4*(j:Int)+4:=by omega
 refine Ex.of (n:=K+400) ?_;obtain⟨s,a1,a2,ac,ab,au,ap,aq,ew,ea⟩:=Ar.jD e (⟨v0 % n,v1 % (sy+1),v2 % n,x⟩:Ar α);simp only at ew;unfold Q5 mA;rw[hl1,if_neg (show ¬ j+1=0 by omega),ha,c4,Qy2,ea];rw[ew]at t3;clear h0 h1 h2 h3 h4 ew ea hl1;unfold bN dD Hq Nc bA wD yO at*;simp only;generalize LK .i64 ps=l9,LK .i64 li=l8,LK .i64 lf=l7,LK .i64 la=l6,v1 % sy=w1,v1 % (sy+1)=w4 at*;generalize v0 % (n:Int)=w0 at*;generalize v2 % (n:Int)=w2 at*;have p0:4*j<la.length:=by omega
 have p1:4*j+1<la.length:=by omega
 have p2:4*j+2<la.length:=by omega
 obtain⟨k,hk⟩:∃ k:Nat,k=4*j:=⟨_,rfl⟩
 have ZH:4*(j:Int)=(k:Int):=by omega
 have alA:k<=36:=by omega
 have hkl:k+3<la.length:=by omega
 rw[<-hk]at e0 e1 e2 e3 p0 p1 p2 q3;rw[ZH];have i0:=idx e0;have i1:=idx e1;have i2:=idx e2;have i3:=idx e3;have s1:ah .i64 ((k:Int)+1)=(k:Int)+1:=wrap_i64 (by omega);have s2:ah .i64 ((k:Int)+2)=(k:Int)+2:=wrap_i64 (by omega);have s3:ah .i64 ((k:Int)+3)=(k:Int)+3:=wrap_i64 (by omega);have s4:ah .i64 ((k:Int)+4)=(k:Int)+4:=wrap_i64 (by omega);have b0:(0:Int)<=(k:Int):=by omega
 have b1:(0:Int)<=(k:Int)+1:=by omega
 have b2:(0:Int)<=(k:Int)+2:=by omega
 have b3:(0:Int)<=(k:Int)+3:=by omega
 have k0:(k:Int)<(la.length:Int):=by omega
 have k1:(k:Int)+1<(la.length:Int):=by omega
 have k2:(k:Int)+2<(la.length:Int):=by omega
 have k3:(k:Int)+3<(la.length:Int):=by omega
 have k4:(k:Int)<40:=by omega
 have d1:((k:Int)+1).toNat=k+1:=by omega
 have d2:((k:Int)+2).toNat=k+2:=by omega
 have d3:((k:Int)+3).toNat=k+3:=by omega
 cases j with
 | zero =>
  have e1:as'=[]:=Qz0.1 ha;subst e1;rw[if_pos rfl];simp (maxSteps:=800000) -implicitDefEqProofs[Mv,f1028,t0,t1,t2,t3,t4,hw1,hw4,hlen,e0,e1,e2,e3,i0,i1,i2,i3,p0,p1,p2,q3,s1,s2,s3,s4,b0,b1,b2,b3,k0,k1,k2,k3,k4,d1,d2,d3,most]
 | succ m =>
  rw[if_neg (show ¬ m+1=0 by omega),Qy2];have tk:as'.take (m+1)=as':=Qe2 (by omega);have m1:(m+1+1)*152<=1099511627776:=by omega
  have m2:m+1+1<=1099511627776:=by omega
  simp (maxSteps:=800000) -implicitDefEqProofs[Mv,f1028,t0,t1,t2,t3,t4,hw1,hw4,hlen,e0,e1,e2,e3,i0,i1,i2,i3,p0,p1,p2,q3,s1,s2,s3,s4,b0,b1,b2,b3,k0,k1,k2,k3,k4,d1,d2,d3,ha,tk,most,m1,m2]
theorem adQ (st:Int)(li lf la:List Int)(kk:Int)(ps:List Int)(sy:Int)(n j:Nat)(is fs as':List D)(hj:j<=10)(h:la.length<4*j+4\/j=10) :
  Ex E1 Mv (Q5 sy n (mA (bN st li lf la) (dD kk ps) kk ps sy n is fs as') j .u) (.exit 2,Q5 sy n (mA (bN st li lf la) (dD kk ps) kk ps sy n is fs as') j (.d (.v (.bool false)))):=by
 have hlen:(LK .i64 la).length=la.length:=by simp[LK]
 have s3:ah .i64 (4*(j:Int)+3)=4*(j:Int)+3:=wrap_i64 (by omega);refine Ex.of (n:=200) ?_;unfold Q5 mA;unfold bN dD Hq Nc;generalize LK .i64 ps=l9,LK .i64 li=l8,LK .i64 lf=l7,LK .i64 la=l6 at*
 by_cases h1:4*(j:Int)+3<(la.length:Int)
 ·have h2:¬ 4*(j:Int)<40:=by omega
  split<;>simp (maxSteps:=400000) -implicitDefEqProofs[Mv,f1028,hlen,s3,h1,h2]
 ·split<;>simp (maxSteps:=400000) -implicitDefEqProofs[Mv,f1028,hlen,s3,h1]
def ae1 (kk:Int)(ps:List Int)(sy:Int)(n:Nat)(la:List Int)(j:Nat):Ar (List Sv):=⟨la.getD (4*j) 0 % n,la.getD (4*j+1) 0 % (sy+1),la.getD (4*j+2) 0 % n,rR kk ps (la.getD (4*j+3) 0)⟩
def nS (kk:Int)(ps:List Int)(sy:Int)(n:Nat)(la:List Int):List (Ar (List Sv)):=(List.range (DI la)).map (ae1 kk ps sy n la)
theorem aaE (kk:Int)(ps:List Int)(sy:Int)(n:Nat)(la:List Int):(nS kk ps sy n la).length<=10:=by simp[nS,DI];omega
theorem ad3 {kk:Int}{ps:List Int}(hv:aJ kk ps=true)(st:Int)(li lf la:List Int)(sy:Int)(hsy:1<=sy/\sy<=32)(hi:∀ x ∈ li,d_ x)(hf:∀ x ∈ lf,d_ x)(ha:∀ x ∈ la,d_ x) :
  Ca E1 1028 [.d (afM st li lf la),.d (bA kk ps),.d (.v (.int .i64 sy)),.d (.v (.int .i64 4))]
   (.d (uP kk ps sy (stM st) ((Ak kk ps li 0 (stM st)).map (bS kk)) ((Ak kk ps lf (stM st-1) (stM st)).map (bS kk)) (bS kk) (nS kk ps sy (stM st) la)),none):=by
 obtain⟨hn0,Kl⟩:=Wm st;have hni:=O3 st;have cm:=Ca.fP (iW (ah .i64 (st-1)) 4 (Vl _) (by omega) (by omega));have hw:ah .i64 (1+ah .i64 (st-1) % 4)=1+ah .i64 (st-1) % 4:=wrap_i64 (by omega);generalize hmm:ah .i64 (st-1) % 4=mm at*;generalize stM st=n at*;have e1:((Ak kk ps li 0 n).map (bS kk)).map W.d=(List.range n).map fun i=>(bS kk (y7 kk ps li i 0)).d:=by simp[Ak]
 have e2:((Ak kk ps lf (n-1) n).map (bS kk)).map W.d=(List.range n).map fun i=>(bS kk (y7 kk ps lf i (n-1))).d:=by simp[Ak]
 unfold uP;rw[e1,e2]
 -- the ends
 obtain⟨r1,hl1,hr1⟩:=Ex.fold (E:=E1) (b:=cO) (List.range n) (fun(u:Unit) _=>u) () (fun j _ s=>s=Q4 sy n (mH (bN st li lf la) (dD kk ps) kk ps sy n ((List.range j).map fun i=>(bS kk (y7 kk ps li i 0)).d) ((List.range j).map fun i=>(bS kk (y7 kk ps lf i (n-1))).d)) j .u)
  (fun _ q=>q=(.exit 0,Q4 sy n (mH (bN st li lf la) (dD kk ps) kk ps sy n ((List.range n).map fun i=>(bS kk (y7 kk ps li i 0)).d) ((List.range n).map fun i=>(bS kk (y7 kk ps lf i (n-1))).d)) n (.d (.v (.bool false)))))
  (fun j a s hj hs=>by
   have hjn:j<n:=by simpa using(bD hj)
   subst hs;refine⟨_,?_,rfl⟩;rw[X2,Qm1,Qm1];have c2:=Wh hv lf hf j (n-1);rw[show(((n-1:Nat)):Int)=(n:Int)-1 by omega]at c2;exact abA st li lf la kk ps sy n j hjn Kl _ _ (by simp) (by simp) _ _ (Wh hv li hi j 0) c2)
  (fun s hs=>by
   subst hs;simp only[Xv2];exact⟨_,adq st li lf la kk ps sy n hn0 _ _ (by simp),by simp,rfl⟩)
  (st:=Q4 sy n (mH (bN st li lf la) (dD kk ps) kk ps sy n [] []) 0 .u) rfl
 subst hr1;generalize hIs:((List.range n).map fun i=>(bS kk (y7 kk ps li i 0)).d)=is at*;generalize QY:((List.range n).map fun i=>(bS kk (y7 kk ps lf i (n-1))).d)=fs at*;have hil:is.length=n:=by rw[<-hIs];simp
 have hfl:fs.length=n:=by rw[<-QY];simp
 clear hIs QY e1 e2
 -- the ak
 obtain⟨r2,hl2,hr2⟩:=Ex.fold (E:=E1) (b:=Mv) (List.range (DI la)) (fun(u:Unit) _=>u) () (fun j _ s=>s=Q5 sy n (mA (bN st li lf la) (dD kk ps) kk ps sy n is fs (((List.range j).map (ae1 kk ps sy n la)).map (Ar.d (bS kk)))) j .u)
  (fun _ q=>q=(.exit 2,Q5 sy n (mA (bN st li lf la) (dD kk ps) kk ps sy n is fs ((nS kk ps sy n la).map (Ar.d (bS kk)))) (DI la) (.d (.v (.bool false)))))
  (fun j a s hj hs=>by
   have hjn:j<DI la:=by simpa using(bD hj)
   have ai1:=hjn;unfold DI at ai1;subst hs;refine⟨_,?_,rfl⟩;rw[X2,Qm1,Qm1];have g:∀ k,k<4->la[4*j+k]?=some (la.getD (4*j+k) 0):=fun k hk=>by
    rw[Qq2,Qa1 (by omega)];rfl
   have gr:∀ k,k<4->d_ (la.getD (4*j+k) 0):=fun k hk=>ha _ (Qa2 (g k hk))
   exact abB (e:=bS kk) st li lf la kk ps sy n j ⟨hn0,Kl⟩ hsy is fs _ (by simp) (by omega) _ _ _ _ (g 0 (by omega)) (g 1 (by omega)) (g 2 (by omega)) (g 3 (by omega)) _
    (Ca.fP (iW _ n (gr 0 (by omega)) (by omega) (by omega))) (Ca.fP (iW _ sy (gr 1 (by omega)) (by omega) (by omega))) (Ca.fP (iW _ (sy+1) (gr 1 (by omega)) (by omega) (by omega))) (Ca.fP (iW _ n (gr 2 (by omega)) (by omega) (by omega))) (JM hv _ (gr 3 (by omega))))
  (fun s hs=>by
   subst hs;simp only[Xv2];exact⟨_,adQ st li lf la kk ps sy n (DI la) is fs _ (by unfold DI;omega) (by unfold DI;omega),by simp,rfl⟩)
  (st:=Q5 sy n (mA (bN st li lf la) (dD kk ps) kk ps sy n is fs []) 0 .u) rfl
 subst hr2;have hal:((nS kk ps sy n la).map (Ar.d (bS kk))).length=DI la:=by simp[nS]
 generalize (nS kk ps sy n la).map (Ar.d (bS kk))=as' at*;obtain⟨N,t⟩:=cm.get;have hA:Ex E1 f1028.body.l (st0 [.d (afM st li lf la),.d (bA kk ps),.d (.v (.int .i64 sy)),.d (.v (.int .i64 4)),.u,.u,.u,.u,.u,.u,.u,.u,.u,.u,.u] [])
   (.norm,(st0 [.u,.u,.d (.v (.int .i64 sy)),.d (.v (.int .i64 4)),.r (.loc 0) 0,.r (.loc 1) 0,.r (.loc 2) 0,.u,.u,.u,.u,.u,.u,.u,.u] [bN st li lf la,dD kk ps,Hq])):=by
  refine Ex.of (n:=60) ?_;unfold afM bN bA dD Hq;generalize LK .i64 ps=l9,LK .i64 li=l8,LK .i64 lf=l7,LK .i64 la=l6 at*;simp -implicitDefEqProofs[f1028]
 have hB:Ex E1 f1028.body.r.l (st0 [.u,.u,.d (.v (.int .i64 sy)),.d (.v (.int .i64 4)),.r (.loc 0) 0,.r (.loc 1) 0,.r (.loc 2) 0,.u,.u,.u,.u,.u,.u,.u,.u] [bN st li lf la,dD kk ps,Hq])
   (.norm,(st0 [.u,.u,.d (.v (.int .i64 sy)),.u,.r (.loc 0) 0,.r (.loc 1) 0,.r (.loc 2) 0,.d (.v (.int .i64 n)),.u,.u,.u,.u,.u,.u,.u] [bN st li lf la,dD kk ps,Hq])):=by
  refine Ex.of (n:=N+60) ?_;rw[hni];unfold bN dD Hq;generalize LK .i64 ps=l9,LK .i64 li=l8,LK .i64 lf=l7,LK .i64 la=l6 at*;simp -implicitDefEqProofs[f1028,t,hw]
 have hC:Ex E1 f1028.body.r.r.l (st0 [.u,.u,.d (.v (.int .i64 sy)),.u,.r (.loc 0) 0,.r (.loc 1) 0,.r (.loc 2) 0,.d (.v (.int .i64 n)),.u,.u,.u,.u,.u,.u,.u] [bN st li lf la,dD kk ps,Hq])
   (.norm,(st0 [.u,.u,.d (.v (.int .i64 sy)),.u,.r (.loc 0) 0,.r (.loc 1) 0,.r (.loc 2) 0,.d (.v (.int .i64 n)),.r (.loc 3) 0,.u,.u,.u,.u,.u,.u] [bN st li lf la,dD kk ps,Hq,Nc kk ps sy n (.d (.n 8)) (.d (.n 8)) (.d (.n 11))])):=by
  refine Ex.of (n:=100) ?_;unfold bN dD Hq Nc;generalize LK .i64 ps=l9,LK .i64 li=l8,LK .i64 lf=l7,LK .i64 la=l6 at*;simp -implicitDefEqProofs[f1028]
 have hD:Ex E1 f1028.body.r.r.r.l.l (st0 [.u,.u,.d (.v (.int .i64 sy)),.u,.r (.loc 0) 0,.r (.loc 1) 0,.r (.loc 2) 0,.d (.v (.int .i64 n)),.r (.loc 3) 0,.u,.u,.u,.u,.u,.u] [bN st li lf la,dD kk ps,Hq,Nc kk ps sy n (.d (.n 8)) (.d (.n 8)) (.d (.n 11))])
   (.norm,Q4 sy n (mH (bN st li lf la) (dD kk ps) kk ps sy n [] []) 0 .u):=by
  refine Ex.of (n:=60) ?_;unfold Q4 mH;simp -implicitDefEqProofs[f1028]
 have hE:Ex E1 f1028.body.r.r.r.r.l.l (Q4 sy n (mH (bN st li lf la) (dD kk ps) kk ps sy n is fs) n (.d (.v (.bool false))))
   (.norm,Q5 sy n (mA (bN st li lf la) (dD kk ps) kk ps sy n is fs []) 0 .u):=by
  refine Ex.of (n:=60) ?_;unfold Q4 Q5 mH mA;rw[hil,if_neg (by omega),if_pos (show([]:List D).length=0 from rfl)];simp -implicitDefEqProofs[f1028]
 refine Ca.body (o:=.ret) (st1:=(st0 [.u,.u,.u,.u,.u,.u,.r (.loc 2) 0,.u,.u,.u,.u,.u,.u,.u,.u] ((mA (bN st li lf la) (dD kk ps) kk ps sy n is fs as').set 2 (Nc kk ps sy n (.ls (.loc 4) (n-1) 8 0 n) (.ls (.loc 5) (n-1) 8 0 n) (if as'.length=0 then .d (.n 11) else .ls (.loc 6) (as'.length-1) 11 0 as'.length))))) rfl (k1028:E1.fn _=_) rfl ?_ (by intro id h;cases h) ?_
 ·have hF : Ex E1 f1028.body.r.r.r.r.r (Q5 sy n (mA (bN st li lf la) (dD kk ps) kk ps sy n is fs as') (DI la) (.d (.v (.bool false))))
       (.ret, (st0 [.u, .u, .u, .u, .u, .u, .r (.loc 2) 0, .u, .u, .u, .u, .u, .u, .u, .u] ((mA (bN st li lf la) (dD kk ps) kk ps sy n is fs as').set 2 (Nc kk ps sy n (.ls (.loc 4) (n - 1) 8 0 n) (.ls (.loc 5) (n - 1) 8 0 n) (if as'.length = 0 then .d (.n 11) else .ls (.loc 6) (as'.length - 1) 11 0 as'.length))))) := by
   refine Ex.of (n:=100) ?_;unfold Q5 mA bN dD Hq Nc;generalize LK .i64 ps=l9,LK .i64 li=l8,LK .i64 lf=l7,LK .i64 la=l6 at*
   by_cases h:as'.length=0
   ·rw[if_pos h,if_pos h];simp -implicitDefEqProofs[f1028]
   ·rw[if_neg h,if_neg h];simp -implicitDefEqProofs[f1028]
  show Ex E1 (.seq f1028.body.l (.seq f1028.body.r.l (.seq f1028.body.r.r.l (.seq (.seq f1028.body.r.r.r.l.l (.block 0 (.loop cO))) (.seq (.seq f1028.body.r.r.r.r.l.l (.block 2 (.loop Mv))) f1028.body.r.r.r.r.r))))) _ _;exact hA.seq (hB.seq (hC.seq ((hD.seq hl1.block).seq ((hE.seq hl2.block).seq hF))))
 ·have v1:ae.view (n-1) 8 0 n (.row (n-1) 8 is)=some is:=by rw[<-hil];simp[ae.view]
  have v2:ae.view (n-1) 8 0 n (.row (n-1) 8 fs)=some fs:=by rw[<-hfl];simp[ae.view]
  have v3:ae.view (as'.length-1) 11 0 as'.length (.row (as'.length-1) 11 as')=some as':=by simp[ae.view]
  unfold mA bN dD Hq Nc qW;generalize LK .i64 ps=l9,LK .i64 li=l8,LK .i64 lf=l7,LK .i64 la=l6 at*
  by_cases h:as'.length=0
  ·have h':as'=[]:=Qz0.1 h;subst h';simp -implicitDefEqProofs[f1028,v1,v2]
  ·rw[if_neg h,if_neg h];simp -implicitDefEqProofs[f1028,v1,v2,v3]
end Fi.S
noncomputable section
namespace Fi.S
open Go Fi
set_option maxHeartbeats 8000000
set_option maxRecDepth 10000
def zt (st:Int)(li lf la:List Int)(em:Bool):ae:=.box [.d (.v (.int .i64 st)),.d (.s 1 (LK .i64 li)),.d (.s 1 (LK .i64 lf)),.d (.s 1 (LK .i64 la)),.d (.v (.bool em))]
def iK (us ws:List D)(j:Nat)(t:FV)(L:List ae):St :=
 (st0 [.u,.u,.u,.u,.u,.u,.u,.u,.u,.u,.u,.d (.s 1 us),.u,.d (.s 1 ws),.u,.d (.v (.int .i64 j)),.u,t,.u] L)
def FB:aG:=f1503.body.r.r.r.r.r.r.r.r.l.r.bl.lp
theorem ad4 (us ws:List Bool)(n j:Nat)(hn:n<=1000000)(h1:us.length=n)(h2:ws.length=n)(hj:j<n)(hm:us[j]?=some true->ws[j]?=some true)(L:List ae) :
  Ex E1 FB (iK (BDt us) (BDt ws) j .u L) (.norm,iK (BDt us) (BDt ws) (j+1) .u L):=by
 have b1:us[j]?=some (us[j]'(by omega)):=Qa1 (by omega);have b2:ws[j]?=some (ws[j]'(by omega)):=Qa1 (by omega);rw[b1,b2]at hm;generalize us[j]'(by omega)=b,ws[j]'(by omega)=c at*;have e1:=tq b1;have e2:=tq b2;have i1:=idx e1;have i2:=idx e2;have hj1:j<(BDt us).length:=by rw[iq];omega
 have hj2:j<(BDt ws).length:=by rw[iq];omega
 have hj0:(0:Int)<=(j:Int):=by omega
 have bz:ah .i64 ((j:Int)+1)=(j:Int)+1:=wrap_i64 (by omega);have hk1:((j+1:Nat):Int)=(j:Int)+1:=by omega
 have hjl:(j:Int)<((BDt us).length:Int):=by omega
 refine Ex.of (n:=100) ?_;unfold iK;rw[hk1];cases b with
 | false=>cases c<;>simp -implicitDefEqProofs[FB,f1503,hj0,bz,hjl,hj1,hj2,e1,e2,i1,i2]
 | true =>
  obtain rfl:c=true:=by simpa using hm
  simp -implicitDefEqProofs[FB,f1503,hj0,bz,hjl,hj1,hj2,e1,e2,i1,i2]
theorem aeg (us ws:List Bool)(n:Nat)(hn:n<=1000000)(h1:us.length=n)(h2:ws.length=n)(hm:∀ j:Nat,us[j]?=some true->ws[j]?=some true)(L:List ae) :
  Ex E1 (.loop FB) (iK (BDt us) (BDt ws) 0 .u L) (.exit 0,iK (BDt us) (BDt ws) n (.d (.v (.bool false))) L):=by
 obtain⟨r,h3,h4⟩:=Ex.inv (E:=E1) (b:=FB) (fun j:Nat=>iK (BDt us) (BDt ws) j .u L) (fun j=>n-j) (fun j=>j<=n) (fun r=>r=(.exit 0,iK (BDt us) (BDt ws) n (.d (.v (.bool false))) L)) (fun j hj=>by
  rcases Qg2 j n with h|h
  ·exact .inl ⟨j+1,ad4 us ws n j hn h1 h2 h (hm j) L,by omega,by omega⟩
  ·obtain rfl:j=n:=by omega
   refine .inr ⟨_,Ex.of (n:=60) ?_,by simp,rfl⟩;have hl:(BDt us).length=j:=by rw[iq,h1]
   unfold iK;simp -implicitDefEqProofs[FB,f1503,hl]) 0 (by omega)
 exact h4 ▸ h3
theorem aaF (aw:Ca E1 1504 [] (.d (.v (.bool true)),none))(k fr lb tt v:Int)(em:Bool)(st:Int)(li lf la:List Int)(kk:Int)(hkk:ah .i64 (2+k % 3)=kk)(n:Nat)(hn:n<=64)(aM fin es:List D)(he:es.length<=1000)(us ws:List Bool)(hu:us.length=n)(hw:ws.length=n)
  (hm:∀ j:Nat,us[j]?=some true->ws[j]?=some true) (w:W)
  (h1:Ca E1 46 [.d (.v (.int .i64 k)),.d (.v (.int .i64 3))] (.d (.v (.int .i64 (k % 3))),none)) (h2:Ca E1 1028 [.d (.a [.v (.int .i64 st),.s 1 (LK .i64 li),.s 1 (LK .i64 lf),.s 1 (LK .i64 la),.v (.bool em)]),.d (bA kk []),.d (.v (.int .i64 2)),.d (.v (.int .i64 4))] (.d (qW kk [] 2 n aM fin es),none))
  (h3:Ca E1 46 [.d (.v (.int .i64 fr)),.d (.v (.int .i64 (n:Int)))] (.d (.v (.int .i64 (fr % (n:Int)))),none)) (h4:Ca E1 46 [.d (.v (.int .i64 lb)),.d (.v (.int .i64 3))] (.d (.v (.int .i64 (lb % 3))),none)) (h5:Ca E1 46 [.d (.v (.int .i64 tt)),.d (.v (.int .i64 (n:Int)))] (.d (.v (.int .i64 (tt % (n:Int)))),none))
  (h6:Ca E1 16 [.d (bA kk []),.d (.v (.int .i64 v))] (.d w.d,none))
  (h7:Ca E1 1506 [.d (qW kk [] 2 n aM fin es)] (.d (.t [.s 1 (BDt us),.v (.int .i64 0)]),none))
  (h8:Ca E1 1506 [.d (qW kk [] 2 n aM fin (es++[.a (.v (.int .i64 (fr % (n:Int)))::.v (.int .i64 (lb % 3))::.v (.int .i64 (tt % (n:Int)))::w.d.cells)]))] (.d (.t [.s 1 (BDt ws),.v (.int .i64 0)]),none)) :
  Ca E1 1503 [.d (.v (.int .i64 k)),.d (.a [.v (.int .i64 st),.s 1 (LK .i64 li),.s 1 (LK .i64 lf),.s 1 (LK .i64 la),.v (.bool em)]),.d (.v (.int .i64 fr)),.d (.v (.int .i64 lb)),.d (.v (.int .i64 tt)),.d (.v (.int .i64 v))] (.d (.v (.bool true)),none):=by
 obtain⟨K,hK,t0,t1,t2,t3,t4,t5,t6,t7,t8⟩:=(aw.j (h1.j (h2.j (h3.j (h4.j (h5.j (h6.j (h7.j h8.any)))))))).at 0;clear h1 h2 h3 h4 h5 h6 h7 h8 aw hK;obtain⟨xs,Dg,Dn,xc,xb,xu,xp,xq,ex⟩:=w.aN;rw[ex]at t6 t8;obtain⟨ar,har⟩:∃ ar:D,ar=.a (.v (.int .i64 (fr % (n:Int)))::.v (.int .i64 (lb % 3))::.v (.int .i64 (tt % (n:Int)))::(wD xs Dg Dn xc xb xu xp xq).cells):=⟨_,rfl⟩
 rw[<-har]at t8;have hlu:(BDt us).length=n:=by rw[iq,hu]
 have hlw:(BDt ws).length=n:=by rw[iq,hw]
 have hL:=aeg us ws n (by omega) hu hw hm;have e0:LK .i64 []=[]:=rfl;have sA:Ex E1 f1503.body.l (st0 [.d (.v (.int .i64 k)),.d (.a [.v (.int .i64 st),.s 1 (LK .i64 li),.s 1 (LK .i64 lf),.s 1 (LK .i64 la),.v (.bool em)]),.d (.v (.int .i64 fr)),.d (.v (.int .i64 lb)),.d (.v (.int .i64 tt)),.d (.v (.int .i64 v)),.u,.u,.u,.u,.u,.u,.u,.u,.u,.u,.u,.u,.u] [])
   (.norm,(st0 [.d (.v (.int .i64 k)),.u,.d (.v (.int .i64 fr)),.d (.v (.int .i64 lb)),.d (.v (.int .i64 tt)),.d (.v (.int .i64 v)),.r (.loc 0) 0,.u,.u,.u,.u,.u,.u,.u,.u,.u,.u,.u,.u] [zt st li lf la em])):=by
  refine Ex.of (n:=60) ?_;clear t0 t1 t2 t3 t4 t5 t6 t7 t8 hL;unfold zt;simp -implicitDefEqProofs[f1503]
 have sB:Ex E1 f1503.body.r.l (st0 [.d (.v (.int .i64 k)),.u,.d (.v (.int .i64 fr)),.d (.v (.int .i64 lb)),.d (.v (.int .i64 tt)),.d (.v (.int .i64 v)),.r (.loc 0) 0,.u,.u,.u,.u,.u,.u,.u,.u,.u,.u,.u,.u] [zt st li lf la em])
   (.norm,(st0 [.u,.u,.d (.v (.int .i64 fr)),.d (.v (.int .i64 lb)),.d (.v (.int .i64 tt)),.d (.v (.int .i64 v)),.r (.loc 0) 0,.u,.r (.loc 1) 0,.u,.u,.u,.u,.u,.u,.u,.u,.u,.u] [zt st li lf la em,.box [.d (.v (.int .i64 kk)),.d (.n 1)]])):=by
  refine Ex.of (n:=K+60) ?_;clear t0 t2 t3 t4 t5 t6 t7 t8 hL sA;unfold zt;simp -implicitDefEqProofs[f1503,t1,hkk]
 have sC:Ex E1 f1503.body.r.r.l (st0 [.u,.u,.d (.v (.int .i64 fr)),.d (.v (.int .i64 lb)),.d (.v (.int .i64 tt)),.d (.v (.int .i64 v)),.r (.loc 0) 0,.u,.r (.loc 1) 0,.u,.u,.u,.u,.u,.u,.u,.u,.u,.u] [zt st li lf la em,.box [.d (.v (.int .i64 kk)),.d (.n 1)]])
   (.norm,(st0 [.u,.u,.d (.v (.int .i64 fr)),.d (.v (.int .i64 lb)),.d (.v (.int .i64 tt)),.d (.v (.int .i64 v)),.u,.u,.r (.loc 1) 0,.r (.loc 2) 0,.u,.u,.u,.u,.u,.u,.u,.u,.u] [zt st li lf la em,.box [.d (.v (.int .i64 kk)),.d (.n 1)],aD kk [] 2 n aM fin es])):=by
  refine Ex.of (n:=K+60) ?_;clear t0 t1 t3 t4 t5 t6 t7 t8 hL sA sB;unfold zt aD;unfold bA qW at t2;rw[e0]at t2 ⊢;generalize LK .i64 li=x1,LK .i64 lf=x2,LK .i64 la=x3 at*;simp -implicitDefEqProofs[f1503,t2]
 have sD:Ex E1 f1503.body.r.r.r.l (st0 [.u,.u,.d (.v (.int .i64 fr)),.d (.v (.int .i64 lb)),.d (.v (.int .i64 tt)),.d (.v (.int .i64 v)),.u,.u,.r (.loc 1) 0,.r (.loc 2) 0,.u,.u,.u,.u,.u,.u,.u,.u,.u] [zt st li lf la em,.box [.d (.v (.int .i64 kk)),.d (.n 1)],aD kk [] 2 n aM fin es])
   (.norm,(st0 [.u,.u,.d (.v (.int .i64 fr)),.d (.v (.int .i64 lb)),.d (.v (.int .i64 tt)),.d (.v (.int .i64 v)),.u,.u,.r (.loc 1) 0,.r (.loc 2) 0,.r (.loc 3) 0,.u,.u,.u,.u,.u,.u,.u,.u] [zt st li lf la em,.box [.d (.v (.int .i64 kk)),.d (.n 1)],aD kk [] 2 n aM fin es,aD kk [] 2 n aM fin es])):=by
  refine Ex.of (n:=60) ?_;clear t0 t1 t2 t3 t4 t5 t6 t7 t8 hL sA sB sC;unfold zt aD;rw[e0];simp -implicitDefEqProofs[f1503]
 have sE:∃ px L,Ex E1 f1503.body.r.r.r.r.l (st0 [.u,.u,.d (.v (.int .i64 fr)),.d (.v (.int .i64 lb)),.d (.v (.int .i64 tt)),.d (.v (.int .i64 v)),.u,.u,.r (.loc 1) 0,.r (.loc 2) 0,.r (.loc 3) 0,.u,.u,.u,.u,.u,.u,.u,.u] [zt st li lf la em,.box [.d (.v (.int .i64 kk)),.d (.n 1)],aD kk [] 2 n aM fin es,aD kk [] 2 n aM fin es])
   (.norm,(st0 [.u,.u,.u,.u,.u,.u,.u,.u,.u,.r (.loc 2) 0,.r (.loc 3) 0,.u,.u,.u,.u,.u,.u,.u,.u] L))/\L=[zt st li lf la em,.box [.d (.v (.int .i64 kk)),.d (.n 1)],aD kk [] 2 n aM fin es,.box [.d (.v (.int .i64 kk)),.d (.s 1 []),.d (.v (.int .i64 2)),.d (.v (.int .i64 n)),.d (.s 8 aM),.d (.s 8 fin),px],.row (if es.length=0 then 0 else 1) 11 (es++[ar])]/\px=.ls (.loc 4) (if es.length=0 then 0 else 1) 11 0 (es.length+1):=by
  refine⟨.ls (.loc 4) (if es.length=0 then 0 else 1) 11 0 (es.length+1),[zt st li lf la em,.box [.d (.v (.int .i64 kk)),.d (.n 1)],aD kk [] 2 n aM fin es,.box [.d (.v (.int .i64 kk)),.d (.s 1 []),.d (.v (.int .i64 2)),.d (.v (.int .i64 n)),.d (.s 8 aM),.d (.s 8 fin),.ls (.loc 4) (if es.length=0 then 0 else 1) 11 0 (es.length+1)],.row (if es.length=0 then 0 else 1) 11 (es++[ar])],Ex.of (n:=K+100) ?_,rfl,rfl⟩;clear t0 t1 t2 t7 t8 hL sA sB sC sD;rw[har];unfold zt aD;unfold bA wD at*;rw[e0]at t6 ⊢;simp only[D.cells];generalize fr % (n:Int)=f1 at*;generalize tt % (n:Int)=f2 at*;generalize lb % 3=f3,LK .i64 li=x1,LK .i64 lf=x2,LK .i64 la=x3 at*
  by_cases h0:es=[]
  ·subst h0;simp (maxSteps:=400000) -implicitDefEqProofs[f1503,t3,t4,t5,t6,most]
  ·have h1:¬ es.length=0:=fun h=>h0 (Qz0.1 h)
   have h2:es.isEmpty=false:=by simpa using h0
   have b1:es.length*152<=most:=by unfold most;omega
   have b2:es.length<=most:=by unfold most;omega
   have b3:(es.length+1)*152<=most:=by unfold most;omega
   have b4:es.length+1<=most:=by unfold most;omega
   rw[if_neg h1];simp (maxSteps:=400000) -implicitDefEqProofs[f1503,t3,t4,t5,t6,h0,h2,b1,b2,b3,b4]
 obtain⟨px,L,sE,hL1,hpx⟩:=sE;have sF:Ex E1 f1503.body.r.r.r.r.r.l (st0 [.u,.u,.u,.u,.u,.u,.u,.u,.u,.r (.loc 2) 0,.r (.loc 3) 0,.u,.u,.u,.u,.u,.u,.u,.u] L) (.norm,(st0 [.u,.u,.u,.u,.u,.u,.u,.u,.u,.r (.loc 2) 0,.r (.loc 3) 0,.d (.s 1 (BDt us)),.d (.v (.int .i64 0)),.u,.u,.u,.u,.u,.u] L)):=by
  refine Ex.of (n:=K+100) ?_;clear t0 t1 t2 t3 t4 t5 t6 t8 hL sA sB sC sD sE har;rw[hL1];unfold zt aD;unfold qW at*;rw[e0]at t7 ⊢;simp -implicitDefEqProofs[f1503,t7,uC]
 have sG:∃ L2,Ex E1 f1503.body.r.r.r.r.r.r.l (st0 [.u,.u,.u,.u,.u,.u,.u,.u,.u,.r (.loc 2) 0,.r (.loc 3) 0,.d (.s 1 (BDt us)),.d (.v (.int .i64 0)),.u,.u,.u,.u,.u,.u] L) (.norm,(st0 [.u,.u,.u,.u,.u,.u,.u,.u,.u,.r (.loc 2) 0,.u,.d (.s 1 (BDt us)),.d (.v (.int .i64 0)),.d (.s 1 (BDt ws)),.d (.v (.int .i64 0)),.u,.u,.u,.u] L2))/\L2[2]?=some (aD kk [] 2 n aM fin es):=by
  clear t0 t1 t2 t3 t4 t5 t6 t7 hL sA sB sC sD sE sF har;rw[hL1,hpx];unfold zt aD;unfold qW at*;rw[e0]at t8 ⊢;generalize (if es.length=0 then 0 else 1:Nat)=q;have h9:ae.view q 11 0 (es.length+1) (.row q 11 (es++[ar]))=some (es++[ar]):=by
   have:(es++[ar]).take (es.length+1)=es++[ar]:=Qe2 (by simp);simp[ae.view,this]
  refine⟨[zt st li lf la em,.box [.d (.v (.int .i64 kk)),.d (.n 1)],aD kk [] 2 n aM fin es,.box [.d (.v (.int .i64 kk)),.d (.s 1 []),.d (.v (.int .i64 2)),.d (.v (.int .i64 n)),.d (.s 8 aM),.d (.s 8 fin),.ls (.loc 4) q 11 0 (es.length+1)],.gT q 11 (es++[ar])],Ex.of (n:=K+100) ?_,by unfold aD;rw[e0];rfl⟩;unfold zt aD;rw[e0];generalize es.length+1=l1,es++[ar]=as',BDt us=us',BDt ws=ws',LK .i64 li=x1,LK .i64 lf=x2,LK .i64 la=x3 at*;simp (maxSteps:=400000) -implicitDefEqProofs[f1503,t8,uC,h9]
 obtain⟨L2,sG,g2⟩:=sG;have sH:Ex E1 f1503.body.r.r.r.r.r.r.r.l (st0 [.u,.u,.u,.u,.u,.u,.u,.u,.u,.r (.loc 2) 0,.u,.d (.s 1 (BDt us)),.d (.v (.int .i64 0)),.d (.s 1 (BDt ws)),.d (.v (.int .i64 0)),.u,.u,.u,.u] L2) (.norm,(st0 [.u,.u,.u,.u,.u,.u,.u,.u,.u,.u,.u,.d (.s 1 (BDt us)),.u,.d (.s 1 (BDt ws)),.u,.u,.d (.v (.bool false)),.u,.u] L2)):=by
  refine Ex.of (n:=K+100) ?_;clear t0 t1 t2 t3 t4 t5 t6 t7 t8 hL sA sB sC sD sE sF sG har;have l2:2<L2.length:=(bD g2)
  unfold aD at g2;have i2:=idx g2;simp -implicitDefEqProofs[f1503,hlu,hlw,g2,i2,l2]
 have sI:Ex E1 f1503.body.r.r.r.r.r.r.r.r.l.l (st0 [.u,.u,.u,.u,.u,.u,.u,.u,.u,.u,.u,.d (.s 1 (BDt us)),.u,.d (.s 1 (BDt ws)),.u,.u,.d (.v (.bool false)),.u,.u] L2) (.norm,iK (BDt us) (BDt ws) 0 .u L2):=by
  refine Ex.of (n:=60) ?_;clear t0 t1 t2 t3 t4 t5 t6 t7 t8 hL sA sB sC sD sE sF sG sH har;unfold iK;rw[show((0:Nat):Int)=0 from rfl];simp -implicitDefEqProofs[f1503]
 have sJ:∃ st',Ex E1 f1503.body.r.r.r.r.r.r.r.r.r (iK (BDt us) (BDt ws) n (.d (.v (.bool false))) L2) (.ret,st')/\finish f1503 st'=some (.d (.v (.bool true)),none):=by
  clear t1 t2 t3 t4 t5 t6 t7 t8 hL sA sB sC sD sE sF sG sH sI har hL1 hpx;unfold iK;refine⟨_,Ex.of (n:=K+60) (by
   simp -implicitDefEqProofs[f1503,t0];rfl),?_⟩
  simp[finish,show f1503.res=[.var 7] from rfl,show f1503.ref=false from rfl]
 obtain⟨st',e1,e2⟩:=sJ;have e3:Ex E1 f1503.body.r.r.r.r.r.r.r.r.l (st0 [.u,.u,.u,.u,.u,.u,.u,.u,.u,.u,.u,.d (.s 1 (BDt us)),.u,.d (.s 1 (BDt ws)),.u,.u,.d (.v (.bool false)),.u,.u] L2) (.norm,iK (BDt us) (BDt ws) n (.d (.v (.bool false))) L2):=by
  show Ex E1 (.seq f1503.body.r.r.r.r.r.r.r.r.l.l (.block 0 (.loop FB))) _ _;exact sI.seq (Ex.block (hL L2))
 exact Ca.body (o:=.ret) rfl (k1503:E1.fn _=_) rfl (sA.seq (sB.seq (sC.seq (sD.seq (sE.seq (sF.seq (sG.seq (sH.seq (e3.seq e1))))))))) (by simp) e2
section norm
variable {kk:Int} {ps:List Int} (hv:aJ kk ps=true) {sy n:Nat} {aM fin:List (List Sv)}
include hv in
theorem aaT (v:Int):Wt kk ps (rR kk ps v):=⟨Q3 hv v,(Dy hv v).mono (by omega)⟩
abbrev ad5 (kk:Int)(ps:List Int)(sy n:Nat)(l:List (Ar (List Sv))):Prop:=l.length<=11/\∀ a ∈ l,Wt kk ps a.x/\(0<=a.f/\a.f<n)/\(0<=a.l/\a.l<=sy)/\(0<=a.t/\a.t<n)
variable (hsy:1<=sy/\sy<=32) (hn:n<=64) (h1:aM.length=n) (h2:fin.length=n) (hi:∀ x ∈ aM,Wt kk ps x) (hf:∀ x ∈ fin,Wt kk ps x) {l:List (Ar (List Sv))} (hl:ad5 kk ps sy n l)
include hv hsy hn h1 h2 hi hf hl
theorem aaG:MZ kk ps sy n (aM.map (bS kk)) (fin.map (bS kk)) (bS kk) l=true:=by
 have h0:=hl.1;have e1:l.all (pR kk ps sy n (bS kk))=true:=by
  rw[Qh0];intro a ha;obtain⟨g1,g2,g3,g4⟩:=hl.2 a ha;unfold pR AY;rw[(Kh hv g1).2];simp only[X51,Qc0,decide_eq_true_eq];omega
 have e2:∀ {l:List (List Sv)},(∀ x ∈ l,Wt kk ps x)->(l.map (bS kk)).all (cZ kk ps)=true:=by
  intro l h;rw[Qh0];intro w hw;obtain⟨x,hx,rfl⟩:=Qh2.1 hw;exact(Kh hv (h x hx)).2
 unfold MZ OM;rw[e1,e2 hi,e2 hf,hv];simp only[Qm2,Qc0,decide_eq_true_eq,X51,Qu2,and_true,true_and];omega
theorem aeh:Ca E1 1024 [.d (uP kk ps sy n (aM.map (bS kk)) (fin.map (bS kk)) (bS kk) l)] (.d (.t [uP kk ps sy n (aM.map (bS kk)) (fin.map (bS kk)) (bS kk) (fD (bL (dz kk ps)) (Et kk ps) l),.v (.int .i64 0)]),none):=by
 have h4:=hl.1;have ok:∀ {l:List (List Sv)},(∀ x ∈ l,Wt kk ps x)->∀ w ∈ l.map (bS kk),w.OK:=fun h w hw=>by obtain⟨x,hx,rfl⟩:=Qh2.1 hw;exact(Kh hv (h x hx)).1
 have a1:=Vz (e:=bS kk) kk ps sy n (aM.map (bS kk)) (fin.map (bS kk)) l (vH hv) (by simp;omega) (by simp;omega) (by omega) (ok hi) (ok hf) (fun a ha=>(Kh hv (hl.2 a ha).1).1);rw[aaG hv hsy hn h1 h2 hi hf hl]at a1;exact GZ (ai2 hv) sy n aM fin l (vH hv) (by omega) (by omega) (by omega) (by omega) (fun x hx=>(hi x hx).gf) (fun x hx=>(hf x hx).gf) (fun a ha=>(hl.2 a ha).1.gf) a1
theorem aaU:Ca E1 1506 [.d (uP kk ps sy n (aM.map (bS kk)) (fin.map (bS kk)) (bS kk) l)] (.d (.t [.s 1 (BDt (eH (Et kk ps) aM fin (fD (bL (dz kk ps)) (Et kk ps) l))),.v (.int .i64 0)]),none):=by
 have h4:=hl.1;have h5:=Fx (pl:=bL (dz kk ps)) (fo:=Et kk ps) l 11 h4;exact abw (e:=bS kk) (fo:=Et kk ps) sy n aM fin _ (by omega) (by omega) (by omega) (fun x hx=>(ai2 hv).z1 1 x (by omega) (hi x hx).gf) (fun x hx=>(ai2 hv).z1 1 x (by omega) (hf x hx).gf) (fun a ha=>by
  obtain⟨b,hb,e1,e2,e3⟩:=(jO (pl:=bL (dz kk ps)) (l:=l) a).1 ⟨a,(Xg2.1 ha).1,rfl,rfl,rfl⟩;obtain⟨_,g1,_,g2⟩:=hl.2 b hb;rw[h1,<-e1,<-e3];exact⟨g1,g2⟩) _ ⟨_,_,_,_,_,_,_,rfl⟩ (aeh hv hsy hn h1 h2 hi hf hl)
end norm
theorem ad6 (k fr lb tt v:Int)(em:Bool)(st:Int)(li lf la:List Int)(hk:d_ k)(hfr:d_ fr)(hlb:d_ lb)(ZL:d_ tt)(hvv:d_ v)(Km:∀ x ∈ li,d_ x)(hlf:∀ x ∈ lf,d_ x)(hla:∀ x ∈ la,d_ x)(aw:Ca E1 1504 [] (.d (.v (.bool true)),none)) :
  Ca E1 1503 [.d (.v (.int .i64 k)),.d (.a [.v (.int .i64 st),.s 1 (LK .i64 li),.s 1 (LK .i64 lf),.s 1 (LK .i64 la),.v (.bool em)]),.d (.v (.int .i64 fr)),.d (.v (.int .i64 lb)),.d (.v (.int .i64 tt)),.d (.v (.int .i64 v))] (.d (.v (.bool true)),none):=by
 have r1:=Qk2 k (show(3:Int)≠0 by omega);have r2:=Qj0 k (show(0:Int)<3 by omega);have hw:ah .i64 (2+k % 3)=2+k % 3:=wrap_i64 (by omega);have aie:2+k % 3=2\/2+k % 3=3\/2+k % 3=4:=by omega
 have c1:=Ca.fP (iW k 3 hk (by omega) (by omega));generalize hkk:2+k % 3=kk at*;have hv:aJ kk []=true:=by rcases aie with h|h|h<;>rw[h]<;>decide
 obtain⟨hn0,Kl⟩:=Wm st;have hm:=Nf hv 2 (by omega) (stM st) hn0 la;obtain⟨l,c2,al9,hl⟩:∃ l,Ca E1 1028 [.d (.a [.v (.int .i64 st),.s 1 (LK .i64 li),.s 1 (LK .i64 lf),.s 1 (LK .i64 la),.v (.bool em)]),.d (bA kk []),.d (.v (.int .i64 2)),.d (.v (.int .i64 4))]
   (.d (uP kk [] 2 (stM st) ((Ak kk [] li 0 (stM st)).map (bS kk)) ((Ak kk [] lf (stM st-1) (stM st)).map (bS kk)) (bS kk) l),none)/\l.length<=10/\∀ a ∈ l,Wt kk [] a.x/\(0<=a.f/\a.f<stM st)/\(0<=a.l/\a.l<=(2:Nat))/\(0<=a.t/\a.t<stM st):=by
  cases em with
  | false=>exact⟨_,ZQ hv st li lf la 2 (by omega) Km hlf hla,Q6 ..,fun a ha=>by
    have g:=hm a ha;exact⟨g.wt hv,g.f,by have:=g.l;omega,g.t⟩⟩
  | true=>exact⟨_,ad3 hv st li lf la 2 (by omega) Km hlf hla,aaE ..,fun a ha=>by
    obtain⟨j,_,rfl⟩:=Qh2.1 ha;have r:∀ x:Int,0<=x % (stM st:Int)/\x % (stM st:Int)<(stM st:Int):=fun x=>⟨Qk2 x (by omega),Qj0 x (by omega)⟩
    have q:∀ x:Int,0<=x % (2+1:Int)/\x % (2+1:Int)<2+1:=fun x=>⟨Qk2 x (by omega),Qj0 x (by omega)⟩
    have q1:=q (la.getD (4*j+1) 0);exact⟨aaT hv _,r _,⟨q1.1,by show la.getD (4*j+1) 0 % (2+1)<=_;omega⟩,r _⟩⟩
 have l1:=Ke kk [] li 0 (stM st);have l2:=Ke kk [] lf (stM st-1) (stM st);have w1:∀ x ∈ Ak kk [] li 0 (stM st),Wt kk [] x:=fun x hx=>by
  obtain⟨i,_,rfl⟩:=Qh2.1 hx;exact Wi hv li i 0
 have w2:∀ x ∈ Ak kk [] lf (stM st-1) (stM st),Wt kk [] x:=fun x hx=>by
  obtain⟨i,_,rfl⟩:=Qh2.1 hx;exact Wi hv lf i _
 generalize Ak kk [] li 0 (stM st)=aM,Ak kk [] lf (stM st-1) (stM st)=fin at*;generalize stM st=n at*;have c3:=Ca.fP (iW fr n hfr (by omega) (by omega));have c4:=Ca.fP (iW lb 3 hlb (by omega) (by omega));have c5:=Ca.fP (iW tt n ZL (by omega) (by omega));have c6:=JM hv v hvv;have a1:=And.intro (Qk2 fr (show(n:Int)≠0 by omega)) (Qj0 fr (show 0<(n:Int) by omega));have a2:=And.intro (Qk2 lb (show(3:Int)≠0 by omega)) (Qj0 lb (show 0<(3:Int) by omega));have a3:=And.intro (Qk2 tt (show(n:Int)≠0 by omega)) (Qj0 tt (show 0<(n:Int) by omega));have wx:=aaT hv v;generalize rR kk [] v=xw at*;have hL:ad5 kk [] 2 n l:=⟨by omega,hl⟩
 have hX:ad5 kk [] 2 n (l++[⟨fr % n,lb % 3,tt % n,xw⟩]):=⟨by simp;omega,fun a ha=>by
  rcases Qs1.1 ha with h|h
  ·exact hl a h
  ·rw[Qw2.1 h];exact⟨wx,a1,⟨a2.1,by show lb % 3<=_;omega⟩,a3⟩⟩
 have u1:=aaU hv (by omega) (by omega) l1 l2 w1 w2 hL;have u2:=aaU hv (by omega) (by omega) l1 l2 w1 w2 hX;have A:Ha (vM (dz kk [])) (bL (dz kk [])) bu (aW kk []) (Fw kk []):=Ka (aQ hv);have hP:PA (vM (dz kk [])) l:=fun a ha=>(hl a ha).1.gd
 have hmono:∀ j:Nat,(eH (Et kk []) aM fin (fD (bL (dz kk [])) (Et kk []) l))[j]?=some true->(eH (Et kk []) aM fin (fD (bL (dz kk [])) (Et kk []) (l++[⟨fr % n,lb % 3,tt % n,xw⟩])))[j]?=some true:=fun j h =>
  ab2 (fun c hc=>aaz A (fun x hx h=>Wn hv hx h) (W.AQ _) (fun x hx=>aaD aie hx) hP wx.gd hc) h
 have k1:=vB (Et kk []) (l1.trans l2.symm) (fD (bL (dz kk [])) (Et kk []) l);have k2:=vB (Et kk []) (l1.trans l2.symm) (fD (bL (dz kk [])) (Et kk []) (l++[⟨fr % n,lb % 3,tt % n,xw⟩]));generalize eH (Et kk []) aM fin (fD (bL (dz kk [])) (Et kk []) l)=us,eH (Et kk []) aM fin (fD (bL (dz kk [])) (Et kk []) (l++[⟨fr % n,lb % 3,tt % n,xw⟩]))=ws at*;unfold uP at c2 u1 u2;rw[Qm1]at u2;exact aaF aw k fr lb tt v em st li lf la kk (hkk ▸ hw) n (by omega) _ _ _ (by simp;omega) us ws (by omega) (by omega) hmono (bS kk xw) c1 c2 c3 c4 c5 c6 u1 u2
end Fi.S
