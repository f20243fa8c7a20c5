import Derived.Test.YtgngjdakilfmoaaGreatDoorDE
set_option linter.unusedVariables false
set_option linter.unusedSimpArgs false
noncomputable section
namespace Fi.S
open Go Fi
set_option maxHeartbeats 8000000
set_option maxRecDepth 10000
def ae' (st:Int)(li lf la:List Int):D:=.a [vI st,.s 1 (LK .i64 li),.s 1 (LK .i64 lf),.s 1 (LK .i64 la),vB true]
def dA (st:Int)(li lf la:List Int):ah:=.box [dI st,.d (.s 1 (LK .i64 li)),.d (.s 1 (LK .i64 lf)),.d (.s 1 (LK .i64 la)),dB true]
theorem Sd (st:Int)(li lf la:List Int)(kk:Int)(ps:List Int)(sy:Int)(n j:Nat)(hj:j<n)(hn:n<=4)(is fs:List D)(hi:is.length=j)(hf:fs.length=j)(w v:W)
  (h1:Ca E1 1075 [.d (aU kk ps),.d (.s 1 (LK .i64 li)),dI j,dI 0] (.d w.d,none))
  (h2:Ca E1 1075 [.d (aU kk ps),.d (.s 1 (LK .i64 lf)),dI j,dI ((n:Int)-1)] (.d v.d,none)) :
  Ex E1 PU (AA sy n (mH (dA st li lf la) (dD kk ps) kk ps sy n is fs) j .u) (.norm,AA sy n (mH (dA st li lf la) (dD kk ps) kk ps sy n (is++[w.d]) (fs++[v.d])) (j+1) .u):=by
 obtain⟨K,hK,t1,t2⟩:=(h1.j h2.any).at 0;have hjn:(j:Int)<(n:Int):=ae;have hw:ak .i64 ((j:Int)+1)=(j:Int)+1:=wrap_i64 ae;have hw2:ak .i64 ((n:Int)-1)=(n:Int)-1:=wrap_i64 ae;have hj1:((j+1:Nat):Int)=(j:Int)+1:=ae;have hl1:(is++[w.d]).length=j+1:=by simp[hi]
 refine Ex.of (n:=K+300) ?_;obtain⟨ws,l1,l2,c,b,u,p,q,ew⟩:=w.aH;obtain⟨vs,k1,k2,c',b',u',p',q',ev⟩:=v.aH;unfold AA mH;rw[hl1,if_neg (show ¬ j+1=0 by omega),hi,hj1,Qw2];rw[ew]at t1 ⊢;rw[ev]at t2 ⊢;clear h1 h2 ew ev;unfold dA dD qV BI aU wD at*;cases j with
 | zero =>
  have e1:is=[]:=Q20.1 hi;have e2:fs=[]:=Q20.1 hf;subst e1 e2;have z0:((0:Nat):Int)=0:=rfl;rw[z0]at t1 t2 hw ⊢;rw[if_pos rfl];simp (maxSteps:=400000) [PU,f1028,t1,t2,hw,hw2,hj,hjn,TG,most]
 | succ k =>
  have hk:((k+1:Nat):Int)=(k:Int)+1:=ae;rw[if_neg (show ¬ k+1=0 by omega),Qw2];rw[hk]at t1 t2 hw hjn ⊢;have tk1:is.take (k+1)=is:=Qe1 ae;have tk2:fs.take (k+1)=fs:=Qe1 ae;have m1:(k+1+1)*128<=1099511627776:=ae;have m2:k+1+1<=1099511627776:=ae;simp (maxSteps:=400000) [PU,f1028,t1,t2,hw,hw2,hj,hjn,hi,hf,tk1,tk2,most,m1,m2]
theorem XC (st:Int)(li lf la:List Int)(kk:Int)(ps:List Int)(sy:Int)(n:Nat)(hn:0<n)(is fs:List D)(hi:is.length=n) :
  Ex E1 PU (AA sy n (mH (dA st li lf la) (dD kk ps) kk ps sy n is fs) n .u) (.exit 0,AA sy n (mH (dA st li lf la) (dD kk ps) kk ps sy n is fs) n (dB false)):=by
 refine Ex.of (n:=100) ?_;unfold AA mH;rw[hi,if_neg ae];unfold dA dD qV BI;simp (maxSteps:=400000) [PU,f1028]
variable {α:Type} {e:α->W}
theorem Sg (st:Int)(li lf la:List Int)(kk:Int)(ps:List Int)(sy:Int)(n j:Nat)(hn:0<n/\n<=4)(hsy:1<=sy/\sy<=32)(is fs as':List D)(ha:as'.length=j)(hj:j<10)(v0 v1 v2 v3:Int) 
  (g0:la[4*j]?=some v0) (g1:la[4*j+1]?=some v1) (g2:la[4*j+2]?=some v2) (g3:la[4*j+3]?=some v3) (x:α)
  (h0:Ca E1 46 [dI v0,dI n] (dI (v0 % n),none)) (h1:Ca E1 46 [dI v1,dI sy] (dI (v1 % sy),none)) (h4:Ca E1 46 [dI v1,dI (sy+1)] (dI (v1 % (sy+1)),none))
  (h2:Ca E1 46 [dI v2,dI n] (dI (v2 % n),none)) (h3:Ca E1 16 [.d (aU kk ps),dI v3] (.d (e x).d,none)) :
  Ex E1 L8 (AB sy n (mA (dA st li lf la) (dD kk ps) kk ps sy n is fs as') j .u) (.norm,AB sy n (mA (dA st li lf la) (dD kk ps) kk ps sy n is fs (as'++[Ar.d e ⟨v0 % n,v1 % (sy+1),v2 % n,x⟩])) (j+1) .u):=by
 obtain⟨N0,t0⟩:=h0.any;obtain⟨N1,t1⟩:=h1.any;obtain⟨N2,t2⟩:=h2.any;obtain⟨N3,t3⟩:=h3.any;obtain⟨N4,t4⟩:=h4.any;obtain⟨K,hK⟩:∃ K,K=N0+N1+N2+N3+N4:=⟨_,rfl⟩
 replace t4:=t4 K ae;have hw4:ak .i64 (sy+1)=sy+1:=wrap_i64 ae;replace t0:=t0 K ae;replace t1:=t1 K ae;replace t2:=t2 K ae;replace t3:=t3 K ae;have q3:=(aT g3)
 have hlen:(LK .i64 la).length=la.length:=by simp[LK]
 have e0:(LK .i64 la)[4*j]?=some (vI v0):=by simp[LK,g0]
 have e1:(LK .i64 la)[4*j+1]?=some (vI v1):=by simp[LK,g1]
 have e2:(LK .i64 la)[4*j+2]?=some (vI v2):=by simp[LK,g2]
 have e3:(LK .i64 la)[4*j+3]?=some (vI v3):=by simp[LK,g3]
 have r1:=Qo2 v1 (show sy≠0 by omega);have r2:=Qm1 v1 (show 0<sy by omega);have hw1:ak .i64 (1+v1 % sy)=1+v1 % sy:=wrap_i64 ae;have hl1:(as'++[Ar.d e ⟨v0 % n,v1 % (sy+1),v2 % n,x⟩]).length=j+1:=by simp[ha]
 have u1:((4*j+1:Nat):Int)=4*(j:Int)+1:=ae;have c4:4*((j+1:Nat):Int)=4*(j:Int)+4:=ae;refine Ex.of (n:=K+400) ?_;obtain⟨s,a1,a2,ac,ab,au,ap,aq,ew,ea⟩:=Ar.iA e (⟨v0 % n,v1 % (sy+1),v2 % n,x⟩:Ar α);simp only at ew;unfold AB mA;rw[hl1,if_neg (show ¬ j+1=0 by omega),ha,c4,Qw2,ea];rw[ew]at t3;clear h0 h1 h2 h3 h4 ew ea hl1;unfold dA dD qV BI aU wD rV at*;simp only;generalize v1 % sy=w1,v1 % (sy+1)=w4 at*;generalize v0 % (n:Int)=w0 at*;generalize v2 % (n:Int)=w2 at*;have p0:4*j<la.length:=ae;have p1:4*j+1<la.length:=ae;have p2:4*j+2<la.length:=ae;obtain⟨k,hk⟩:∃ k:Nat,k=4*j:=⟨_,rfl⟩
 have hkI:4*(j:Int)=(k:Int):=ae;have ak2:k<=36:=ae;have hkl:k+3<la.length:=ae;rw[<-hk]at e0 e1 e2 e3 p0 p1 p2 q3;rw[hkI];have i0:=idx e0;have i1:=idx e1;have i2:=idx e2;have i3:=idx e3;have s1:ak .i64 ((k:Int)+1)=(k:Int)+1:=wrap_i64 ae;have s2:ak .i64 ((k:Int)+2)=(k:Int)+2:=wrap_i64 ae;have s3:ak .i64 ((k:Int)+3)=(k:Int)+3:=wrap_i64 ae;have s4:ak .i64 ((k:Int)+4)=(k:Int)+4:=wrap_i64 ae;have b0:(0:Int)<=(k:Int):=ae;have b1:(0:Int)<=(k:Int)+1:=ae;have b2:(0:Int)<=(k:Int)+2:=ae;have b3:(0:Int)<=(k:Int)+3:=ae;have k0:(k:Int)<(la.length:Int):=ae;have k1:(k:Int)+1<(la.length:Int):=ae;have k2:(k:Int)+2<(la.length:Int):=ae;have k3:(k:Int)+3<(la.length:Int):=ae;have k4:(k:Int)<40:=ae;have d1:((k:Int)+1).toNat=k+1:=ae;have d2:((k:Int)+2).toNat=k+2:=ae;have d3:((k:Int)+3).toNat=k+3:=ae;cases j with
 | zero =>
  have e1:as'=[]:=Q20.1 ha;subst e1;rw[if_pos rfl];simp (maxSteps:=800000) [L8,f1028,t0,t1,t2,t3,t4,hw1,hw4,hlen,e0,e1,e2,e3,i0,i1,i2,i3,p0,p1,p2,q3,s1,s2,s3,s4,b0,b1,b2,b3,k0,k1,k2,k3,k4,d1,d2,d3,most]
 | succ m =>
  rw[if_neg (show ¬ m+1=0 by omega),Qw2];have tk:as'.take (m+1)=as':=Qe1 ae;have m1:(m+1+1)*152<=1099511627776:=ae;have m2:m+1+1<=1099511627776:=ae;simp (maxSteps:=800000) [L8,f1028,t0,t1,t2,t3,t4,hw1,hw4,hlen,e0,e1,e2,e3,i0,i1,i2,i3,p0,p1,p2,q3,s1,s2,s3,s4,b0,b1,b2,b3,k0,k1,k2,k3,k4,d1,d2,d3,ha,tk,most,m1,m2]
theorem XD (st:Int)(li lf la:List Int)(kk:Int)(ps:List Int)(sy:Int)(n j:Nat)(is fs as':List D)(hj:j<=10)(h:la.length<4*j+4\/j=10) :
  Ex E1 L8 (AB sy n (mA (dA st li lf la) (dD kk ps) kk ps sy n is fs as') j .u) (.exit 2,AB sy n (mA (dA st li lf la) (dD kk ps) kk ps sy n is fs as') j (dB false)):=by
 have hlen:(LK .i64 la).length=la.length:=by simp[LK]
 have s3:ak .i64 (4*(j:Int)+3)=4*(j:Int)+3:=wrap_i64 ae;refine Ex.of (n:=200) ?_;unfold AB mA;unfold dA dD qV BI
 by_cases h1:4*(j:Int)+3<(la.length:Int)
 ·have h2:¬ 4*(j:Int)<40:=ae;split<;>simp (maxSteps:=400000) [L8,f1028,hlen,s3,h1,h2]
 ·split<;>simp (maxSteps:=400000) [L8,f1028,hlen,s3,h1]
def acN (kk:Int)(ps:List Int)(sy:Int)(n:Nat)(la:List Int)(j:Nat):Ar (List Sv):=⟨la.getD (4*j) 0 % n,la.getD (4*j+1) 0 % (sy+1),la.getD (4*j+2) 0 % n,pW kk ps (la.getD (4*j+3) 0)⟩
def wB (kk:Int)(ps:List Int)(sy:Int)(n:Nat)(la:List Int):List (Ar (List Sv)):=(List.range (nZ la)).map (acN kk ps sy n la)
theorem NW (kk:Int)(ps:List Int)(sy:Int)(n:Nat)(la:List Int):(wB kk ps sy n la).length<=10:=by simp[wB,nZ];omega
theorem ag2 {kk:Int}{ps:List Int}(cmw:∀ v:Int,ib v->Ca E1 16 [.d (aU kk ps),dI v] (.d (bN kk (pW kk ps v)).d,none))(ce:∀ l:List Int,(∀ x ∈ l,ib x)->∀ i one:Nat,Ca E1 1075 [.d (aU kk ps),.d (.s 1 (LK .i64 l)),dI i,dI one] (.d (bN kk (o8 kk ps l i one)).d,none))(st:Int)(li lf la:List Int)(sy:Int)(hsy:1<=sy/\sy<=32)(hi:∀ x ∈ li,ib x)(hf:∀ x ∈ lf,ib x)(ha:∀ x ∈ la,ib x) :
  Ca E1 1028 [.d (ae' st li lf la),.d (aU kk ps),dI sy,dI 4]
   (.d (Jf kk ps sy (stM st) ((p9 kk ps li 0 (stM st)).map (bN kk)) ((p9 kk ps lf (stM st-1) (stM st)).map (bN kk)) (bN kk) (wB kk ps sy (stM st) la)),none):=by
 obtain⟨hn0,hn4⟩:=NS st;have hni:=Im st;have cm:=Ca.gM (iR (ak .i64 (st-1)) 4 (Ny _) ae ae);have hw:ak .i64 (1+ak .i64 (st-1) % 4)=1+ak .i64 (st-1) % 4:=wrap_i64 ae;generalize hmm:ak .i64 (st-1) % 4=mm at*;generalize stM st=n at*;have e1:((p9 kk ps li 0 n).map (bN kk)).map W.d=(List.range n).map fun i=>(bN kk (o8 kk ps li i 0)).d:=by simp[p9]
 have e2:((p9 kk ps lf (n-1) n).map (bN kk)).map W.d=(List.range n).map fun i=>(bN kk (o8 kk ps lf i (n-1))).d:=by simp[p9]
 unfold Jf;rw[e1,e2]
 -- the ends
 obtain⟨r1,hl1,hr1⟩:=Ex.fold (E:=E1) (b:=PU) (List.range n) (fun(u:Unit) _=>u) () (fun j _ s=>s=AA sy n (mH (dA st li lf la) (dD kk ps) kk ps sy n ((List.range j).map fun i=>(bN kk (o8 kk ps li i 0)).d) ((List.range j).map fun i=>(bN kk (o8 kk ps lf i (n-1))).d)) j .u)
  (fun _ q=>q=(.exit 0,AA sy n (mH (dA st li lf la) (dD kk ps) kk ps sy n ((List.range n).map fun i=>(bN kk (o8 kk ps li i 0)).d) ((List.range n).map fun i=>(bN kk (o8 kk ps lf i (n-1))).d)) n (dB false)))
  (fun j a s hj hs=>by
   have hjn:j<n:=by simpa using(aT hj)
   subst hs;refine⟨_,?_,rfl⟩;rw[Xt1,Qn0,Qn0];have c2:=ce lf hf j (n-1);rw[show(((n-1:Nat)):Int)=(n:Int)-1 by omega]at c2;exact Sd st li lf la kk ps sy n j hjn hn4 _ _ aC aC _ _ (ce li hi j 0) c2)
  (fun s hs=>by
   subst hs;simp only[Xx2];exact⟨_,XC st li lf la kk ps sy n hn0 _ _ aC,aC,rfl⟩)
  (st:=AA sy n (mH (dA st li lf la) (dD kk ps) kk ps sy n [] []) 0 .u) rfl
 subst hr1;generalize hIs:((List.range n).map fun i=>(bN kk (o8 kk ps li i 0)).d)=is at*;generalize hFs:((List.range n).map fun i=>(bN kk (o8 kk ps lf i (n-1))).d)=fs at*;have hil:is.length=n:=by rw[<-hIs];simp
 have hfl:fs.length=n:=by rw[<-hFs];simp
 clear hIs hFs e1 e2
 -- the aJ
 obtain⟨r2,hl2,hr2⟩:=Ex.fold (E:=E1) (b:=L8) (List.range (nZ la)) (fun(u:Unit) _=>u) () (fun j _ s=>s=AB sy n (mA (dA st li lf la) (dD kk ps) kk ps sy n is fs (((List.range j).map (acN kk ps sy n la)).map (Ar.d (bN kk)))) j .u)
  (fun _ q=>q=(.exit 2,AB sy n (mA (dA st li lf la) (dD kk ps) kk ps sy n is fs ((wB kk ps sy n la).map (Ar.d (bN kk)))) (nZ la) (dB false)))
  (fun j a s hj hs=>by
   have hjn:j<nZ la:=by simpa using(aT hj)
   have ae8:=hjn;unfold nZ at ae8;subst hs;refine⟨_,?_,rfl⟩;rw[Xt1,Qn0,Qn0];have g:∀ k,k<4->la[4*j+k]?=some (la.getD (4*j+k) 0):=fun k hk=>by
    rw[Qj0,Qa1 ae];rfl
   have gr:∀ k,k<4->ib (la.getD (4*j+k) 0):=fun k hk=>ha _ (Qa2 (g k hk))
   exact Sg (e:=bN kk) st li lf la kk ps sy n j ⟨hn0,hn4⟩ hsy is fs _ aC ae _ _ _ _ (g 0 ae) (g 1 ae) (g 2 ae) (g 3 ae) _
    (Ca.gM (iR _ n (gr 0 ae) ae ae)) (Ca.gM (iR _ sy (gr 1 ae) ae ae)) (Ca.gM (iR _ (sy+1) (gr 1 ae) ae ae)) (Ca.gM (iR _ n (gr 2 ae) ae ae)) (cmw _ (gr 3 ae)))
  (fun s hs=>by
   subst hs;simp only[Xx2];exact⟨_,XD st li lf la kk ps sy n (nZ la) is fs _ (by unfold nZ;omega) (by unfold nZ;omega),aC,rfl⟩)
  (st:=AB sy n (mA (dA st li lf la) (dD kk ps) kk ps sy n is fs []) 0 .u) rfl
 subst hr2;have hal:((wB kk ps sy n la).map (Ar.d (bN kk))).length=nZ la:=by simp[wB]
 generalize (wB kk ps sy n la).map (Ar.d (bN kk))=as' at*;obtain⟨N,t⟩:=cm.get;have hA:Ex E1 f1028.body.l (st0 (.d (ae' st li lf la)::.d (aU kk ps)::dI sy::dI 4::GX) [])
   (.norm,(st0 (.u::.u::dI sy::dI 4::rL 0::rL 1::rL 2::zW) [dA st li lf la,dD kk ps,qV])):=by
  apply e6;unfold ae' dA aU dD qV;generalize LK .i64 ps=l9,LK .i64 li=l8,LK .i64 lf=l7,LK .i64 la=l6 at*;simp[f1028]
 have hB := nx hA f1028.body.r.l (st0 (.u::.u::dI sy::.u::rL 0::rL 1::rL 2::dI n::rX) [dA st li lf la,dD kk ps,qV]) (by
  refine Ex.of (n:=N+60) ?_;rw[hni];unfold dA dD qV;generalize LK .i64 ps=l9,LK .i64 li=l8,LK .i64 lf=l7,LK .i64 la=l6 at*;simp[f1028,t,hw])
 have hC := nx hB f1028.body.r.r.l (st0 (.u::.u::dI sy::.u::rL 0::rL 1::rL 2::dI n::rL 3::uV) [dA st li lf la,dD kk ps,qV,BI kk ps sy n (.d (.n 8)) (.d (.n 8)) (.d (.n 11))]) (by
  refine Ex.of (n:=100) ?_;unfold dA dD qV BI;generalize LK .i64 ps=l9,LK .i64 li=l8,LK .i64 lf=l7,LK .i64 la=l6 at*;simp[f1028])
 have hD := nx hC f1028.body.r.r.r.l.l (AA sy n (mH (dA st li lf la) (dD kk ps) kk ps sy n [] []) 0 .u) (by
  apply e6;unfold AA mH;simp[f1028])
 have hE:Ex E1 f1028.body.r.r.r.r.l.l (AA sy n (mH (dA st li lf la) (dD kk ps) kk ps sy n is fs) n (dB false))
   (.norm,AB sy n (mA (dA st li lf la) (dD kk ps) kk ps sy n is fs []) 0 .u):=by
  apply e6;unfold AA AB mH mA;rw[hil,if_neg ae,if_pos (show([]:List D).length=0 from rfl)];simp[f1028]
 refine Ca.body (o:=.ret) (st1:=(st0 (.u::.u::.u::.u::.u::.u::rL 2::zW) ((mA (dA st li lf la) (dD kk ps) kk ps sy n is fs as').set 2 (BI kk ps sy n (.ls (.loc 4) (n-1) 8 0 n) (.ls (.loc 5) (n-1) 8 0 n) (if as'.length=0 then .d (.n 11) else .ls (.loc 6) (as'.length-1) 11 0 as'.length))))) rfl (k1028:E1.fn _=_) rfl ?_ (by intro id h;cases h) ?_
 ·have hF : Ex E1 f1028.body.r.r.r.r.r (AB sy n (mA (dA st li lf la) (dD kk ps) kk ps sy n is fs as') (nZ la) (dB false))
       (.ret, (st0 (.u::.u::.u::.u::.u::.u::rL 2::zW) ((mA (dA st li lf la) (dD kk ps) kk ps sy n is fs as').set 2 (BI kk ps sy n (.ls (.loc 4) (n - 1) 8 0 n) (.ls (.loc 5) (n - 1) 8 0 n) (if as'.length = 0 then .d (.n 11) else .ls (.loc 6) (as'.length - 1) 11 0 as'.length))))) := by
   refine Ex.of (n:=100) ?_;unfold AB mA dA dD qV BI;generalize LK .i64 ps=l9,LK .i64 li=l8,LK .i64 lf=l7,LK .i64 la=l6 at*
   by_cases h:as'.length=0
   ·rw[if_pos h,if_pos h];simp[f1028]
   ·rw[if_neg h,if_neg h];simp[f1028]
  show Ex E1 (.seq f1028.body.l (.seq f1028.body.r.l (.seq f1028.body.r.r.l (.seq (.seq f1028.body.r.r.r.l.l (.block 0 (.loop PU))) (.seq (.seq f1028.body.r.r.r.r.l.l (.block 2 (.loop L8))) f1028.body.r.r.r.r.r))))) _ _;exact hA.seq (hB.seq (hC.seq ((hD.seq hl1.block).seq ((hE.seq hl2.block).seq hF))))
 ·have v1:ah.view (n-1) 8 0 n (.row (n-1) 8 is)=some is:=by rw[<-hil];simp[ah.view]
  have v2:ah.view (n-1) 8 0 n (.row (n-1) 8 fs)=some fs:=by rw[<-hfl];simp[ah.view]
  have v3:ah.view (as'.length-1) 11 0 as'.length (.row (as'.length-1) 11 as')=some as':=by simp[ah.view]
  unfold mA dA dD qV BI jh
  by_cases h:as'.length=0
  ·have h':as'=[]:=Q20.1 h;subst h';simp[f1028,v1,v2]
  ·rw[if_neg h,if_neg h];simp[f1028,v1,v2,v3]
end Fi.S
noncomputable section
namespace Fi.S
open Go Fi
set_option maxHeartbeats 8000000
set_option maxRecDepth 10000
section norm
variable {kk:Int} {ps:List Int} (hv:aM kk ps=true) {sy n:Nat} {bg fin:List (List Sv)}
include hv in
theorem abD (v:Int):Wt kk ps (pW kk ps v):=⟨Gn hv v,(xV hv v).mono ae⟩
abbrev aia (kk:Int)(ps:List Int)(sy n:Nat)(l:List (Ar (List Sv))):Prop:=l.length<=11/\∀ a ∈ l,Wt kk ps a.x/\(0<=a.f/\a.f<n)/\(0<=a.l/\a.l<=sy)/\(0<=a.t/\a.t<n)
variable (hsy:1<=sy/\sy<=32) (hn:n<=64) (h1:bg.length=n) (h2:fin.length=n) (hi:∀ x ∈ bg,Wt kk ps x) (hf:∀ x ∈ fin,Wt kk ps x) {l:List (Ar (List Sv))} (hl:aia kk ps sy n l)
include hv hsy hn h1 h2 hi hf hl
theorem NY:aa8 kk ps sy n (bg.map (bN kk)) (fin.map (bN kk)) (bN kk) l=true:=by
 have h0:=hl.1;have e1:l.all (Ic kk ps sy n (bN kk))=true:=by
  rw[Qh2];intro a ha;obtain⟨g1,g2,g3,g4⟩:=hl.2 a ha;unfold Ic stB;rw[(PW hv g1).2];simp only[X01,Qd0,decide_eq_true_eq];omega
 have e2:∀ {l:List (List Sv)},(∀ x ∈ l,Wt kk ps x)->(l.map (bN kk)).all (fH kk ps)=true:=by
  intro l h;rw[Qh2];intro w hw;obtain⟨x,hx,rfl⟩:=Qg1.1 hw;exact(PW hv (h x hx)).2
 unfold aa8 WR;rw[e1,e2 hi,e2 hf,hv];simp only[Qj1,Qd0,decide_eq_true_eq,X01,Qs1,and_true,true_and];omega
end norm
end Fi.S
