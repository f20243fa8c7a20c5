import Derived.Test.YtgngjdakilfmoaaGreatDoorDF
import Derived.Test.YtgngjdakilfmoaaGreatDoorDL
set_option linter.unusedVariables false
set_option linter.unusedSimpArgs false
noncomputable section
namespace Fi.S
open Go Fi
set_option maxHeartbeats 8000000
set_option maxRecDepth 10000
theorem X4 (vi:Bool)(em:Bool)(st:Int)(li lf la:List Int)(kk:Int)(hkk:kk=if vi then 3 else 2)(n:Int)(bg fin es IA fin' es':List D)
  (h1:Ca E1 1028 [.d (.a [vI st,.s 1 (LK .i64 li),.s 1 (LK .i64 lf),.s 1 (LK .i64 la),vB em]),.d (aU kk []),dI 2,dI 4] (.d (jh kk [] 2 n bg fin es),none))
  (h2:Ca E1 1044 [.d (jh kk [] 2 n bg fin es)] (.d (jh kk [] 2 n IA fin' es'),none)) :
  Ca E1 1707 [dB vi,.d (.a [vI st,.s 1 (LK .i64 li),.s 1 (LK .i64 lf),.s 1 (LK .i64 la),vB em])] (.d (jh kk [] 2 n IA fin' es'),none):=by
 obtain⟨K,hK,t1,t2⟩:=(h1.j h2.any).at 0;clear h1 h2 hK;have e0:LK .i64 []=[]:=rfl;refine Ca.bQ (n:=K+200) ?_;rw[aA rfl (aO 1707 f1707:E1.fn _=_) rfl];unfold aU jh at*;simp only[show LK .i64 []=[] from rfl]at*;cases vi
 ·rw[if_neg aC]at hkk;subst hkk;simp[f1707,t1,t2,Qr,jN]
 ·rw[if_pos rfl]at hkk;subst hkk;simp[f1707,t1,t2,Qr,jN]
end Fi.S
noncomputable section
namespace Fi.S
open Go Fi
set_option maxHeartbeats 8000000
set_option maxRecDepth 10000
variable {α:Type} {e:α->W}
def cnL:aF:=f1701.body.r.r.r.r.l.r.bl.lp
def Qa (v:List D)(j:Nat)(t:FV)(L:List ah):St :=
 (st0 [.u,.u,.u,.u,rL 1,.d (.s 8 v),.u,dI j,.u,.u,.u,.u,.u,.u,.u,.u,t,.u,.u,.u] L)
theorem X5 (kk:Int)(ps:List Int)(sy:Int)(n:Nat)(hn:n<=100000)(bg fin es v:List D)(j:Nat)(hj:j<n)(x y:W)(hx:bg[j]?=some x.d)(hy:v[j]?=some y.d)(hb:Ca E1 25 [.d (aU kk ps),.d x.d,.d y.d] (dB false,none))(mb:ah) :
  Ex E1 cnL (Qa v j .u [mb,bu kk ps sy n bg fin es]) (.norm,Qa v (j+1) .u [mb,bu kk ps sy n bg fin es]):=by
 obtain⟨N,t⟩:=hb.get;have hj0:(0:Int)<=(j:Int):=ae;have hjn:(j:Int)<(n:Int):=ae;have aW:ak .i64 ((j:Int)+1)=(j:Int)+1:=wrap_i64 ae;have hk1:((j+1:Nat):Int)=(j:Int)+1:=ae;obtain⟨vs,Hz,HV,vc,vb,vu,vp,vq,ex⟩:=x.aH;obtain⟨zs,wS,wT,zc,zb,zu,zp,zq,ey⟩:=y.aH;rw[ex]at hx t;rw[ey]at hy t;have i1:=idx hx;have i2:=idx hy;have q1:j<bg.length:=(aT hx)
 have q2:j<v.length:=(aT hy)
 refine Ex.of (n:=N+100) ?_;unfold Qa;rw[hk1];clear ex ey hb;unfold bu aU wD at*;simp[cnL,f1701,t,hj0,hjn,aW,hx,hy,i1,i2,q1,q2]
theorem abM (kk:Int)(ps:List Int)(sy:Int)(n:Nat)(bg fin es v:List D)(mb:ah) :
  Ex E1 cnL (Qa v n .u [mb,bu kk ps sy n bg fin es]) (.exit 0,Qa v n (dB false) [mb,bu kk ps sy n bg fin es]):=by
 apply e6;unfold Qa bu;simp[cnL,f1701]
def cqL:aF:=f1701.body.r.r.r.r.r.r.r.l.r.bl.lp
def L_ (v:List D)(j:Nat)(t:FV)(L:List ah):St :=
 (st0 [.u,.u,.u,.u,rL 1,.d (.s 8 v),.u,.u,rL 2,dI j,.u,.u,.u,.u,.u,.u,.u,.u,t,.u] L)
theorem X6 (kk:Int)(ps:List Int)(sy st:Int)(bg fin:List D)(aJ:List (Ar α))(h3:aJ.length<=1000000)(v:List α)(L:List ah)(px:FV)(aq:List D)(hlen:aq.length<=1000000)(h1:L[1]?=some (bu kk ps sy st bg fin (aJ.map (Ar.d e))))(h2:L[2]?=some (dP kk ps sy st fin bg px))(ho:Fj px L aq)
  (j:Nat) (a:Ar α) (ha:aJ[j]?=some a) (f t:Nat) (hf:a.f=(f:Int)) (ht:a.t=(t:Int)) (vf vt p:α) (hvf:v[f]?=some vf) (hvt:v[t]?=some vt)
  (c1:Ca E1 21 [.d (aU kk ps),.d (e vf).d,.d (e a.x).d] (.d (e p).d,none)) (c2:Ca E1 25 [.d (aU kk ps),.d (e p).d,.d (e vt).d] (dB false,none)) :
  ∃ qM L',Ex E1 cqL (L_ (v.map fun x=>(e x).d) j .u L) (.norm,L_ (v.map fun x=>(e x).d) (j+1) .u L')/\(∀ i,i<2->L'[i]?=L[i]?)/\L'[2]?=some (dP kk ps sy st fin bg qM)/\Fj qM L' (aq++[a.turn.d e]):=by
 have hj:j<aJ.length:=(aT ha)
 have hj0:(0:Int)<=(j:Int):=ae;have aW:ak .i64 ((j:Int)+1)=(j:Int)+1:=wrap_i64 ae;have hk1:((j+1:Nat):Int)=(j:Int)+1:=ae;have e1:(aJ.map (Ar.d e))[j]?=some (a.d e):=by simp[ha]
 have e2:(v.map fun x=>(e x).d)[f]?=some (e vf).d:=by simp[hvf]
 have e3:(v.map fun x=>(e x).d)[t]?=some (e vt).d:=by simp[hvt]
 have f0:(0:Int)<=(f:Int):=ae;have t0:(0:Int)<=(t:Int):=ae;have l2:2<L.length:=(aT h2)
 have l1:1<L.length:=ae;have m1:152<=most:=by unfold most;omega
 have m2:1<=most:=by unfold most;omega
 have m3:(aq.length+1)*152<=most:=by unfold most;omega
 have m4:aq.length+1<=most:=by unfold most;omega
 have sA:∀ b b':ah,(L++[b]).set L.length b'=L++[b']:=fun b b'=>by simp
 have hg:∀ b:ah,(L++[b])[L.length]?=some b:=fun b=>by simp
 have g1:∀ X,(L++X)[1]?=some (bu kk ps sy st bg fin (aJ.map (Ar.d e))):=fun X=>by rw[Qa0 l1];exact h1
 have g2:∀ X,(L++X)[2]?=some (dP kk ps sy st fin bg px):=fun X=>by rw[Qa0 l2];exact h2
 have s2:∀ X r,(L++X).set 2 r=L.set 2 r++X:=fun X r=>Qq2 _ _ l2
 obtain⟨K,hK,t1,t2⟩:=(c1.j c2.any).at 0;obtain⟨s,k1,k3,c,b,u',q,ps',ew,ed⟩:=a.iA e;obtain⟨vs,Hz,HV,vc,vb,vu,vp,vq,evf⟩:=(e vf).aH;obtain⟨zs,wS,wT,zc,zb,zu,zp,zq,evt⟩:=(e vt).aH;obtain⟨rs,rl1,rl2,rc,rb,ru,rp,rq,ep⟩:=(e p).aH;have ed':a.turn.d e=rV a.t a.l a.f s k1 k3 c b u' q ps':=by
  obtain⟨f',l',t',x'⟩:=a;unfold Ar.turn Ar.d rV at*;simp only at ew;rw[ew];rfl
 rw[ed'];rw[ed]at e1;rw[evf]at e2 t1;rw[evt]at e3 t2;rw[ew]at t1;rw[ep]at t1 t2;rw[hf,ht]at e1 ⊢;unfold rV at*;clear ew ed ed' evf evt ep c1 c2 hK hvf hvt;generalize (v.map fun x=>(e x).d)=vd at*;have i2:=idx e2;have i3:=idx e3;have q2:f<vd.length:=(aT e2)
 have q3:t<vd.length:=(aT e3)
 rcases ho with ⟨rfl,rfl⟩|⟨i,av,h5,rfl,h7⟩
 ·refine⟨.ls (.loc (L.length+1)) 0 11 0 1,L.set 2 (dP kk ps sy st fin bg (.ls (.loc (L.length+1)) 0 11 0 1))++[.box [dI f,dI a.l,dI t,dB s,.d (.s 1 k1),.d (.s 1 k3),dI c,dB b,.d (.v (.int .u64 u')),.d (.s 6 q),.d (.s 8 ps')],.row 0 11 [.a [vI t,vI a.l,vI f,vB s,.s 1 k1,.s 1 k3,vI c,vB b,.v (.int .u64 u'),.s 6 q,.s 8 ps']]],?_,fun i hi => ?_,?_,.inr ⟨L.length+1,0,ae,rfl,?_⟩⟩
  ·refine Ex.of (n:=K+300) ?_;unfold L_ dP at*;rw[hk1];unfold bu aU wD at*;generalize LK .i64 ps=l9 at*;generalize hx3:aJ.map (Ar.d e)=x3 at*;have i1:=idx e1;have jJ:j<x3.length:=(aT e1)
   have hjl:(j:Int)<(x3.length:Int):=ae;have i4:=fun X=>idx (g2 X)
   have i5:=fun X=>idx (g1 X)
   have i6:=idx h1;have i7:=idx h2;simp (maxSteps:=400000) [cqL,f1701,hj0,jJ,hjl,aW,t1,t2,f0,t0,e1,e2,e3,i1,i2,i3,i4,i5,i6,i7,q2,q3,g1,g2,h1,h2,hg,sA,s2,l1,l2,m1,m2]
  ·rw[Qa0 (by simp;omega),Qb2 ae]
  ·rw[Qa0 (by simpa using l2)];exact Qd1 l2
  ·rw[Qc0 aC];simp
 ·have hil:i<L.length:=(aT h7)
  refine⟨.ls (.loc i) (av+1) 11 0 (aq.length+1),(L.set i (.row (av+1) 11 (aq++[.a [vI t,vI a.l,vI f,vB s,.s 1 k1,.s 1 k3,vI c,vB b,.v (.int .u64 u'),.s 6 q,.s 8 ps']]))).set 2 (dP kk ps sy st fin bg (.ls (.loc i) (av+1) 11 0 (aq.length+1)))++[.box [dI f,dI a.l,dI t,dB s,.d (.s 1 k1),.d (.s 1 k3),dI c,dB b,.d (.v (.int .u64 u')),.d (.s 6 q),.d (.s 8 ps')]],?_,fun i' hi => ?_,?_,.inr ⟨i,av+1,h5,aC,?_⟩⟩
  ·refine Ex.of (n:=K+300) ?_;unfold L_ dP at*;rw[hk1];have hne:i≠2:=ae;have hne1:i≠1:=ae;have gi:∀ X,(L++X)[i]?=some (.row av 11 aq):=fun X=>by rw[Qa0 hil];exact h7
   have si:∀ X r,(L++X).set i r=L.set i r++X:=fun X r=>Qq2 _ _ hil
   have g2':∀ r X,(L.set i r++X)[2]?=some (.box [dI kk,.d (.s 1 (LK .i64 ps)),dI sy,dI st,.d (.s 8 fin),.d (.s 8 bg),.ls (.loc i) av 11 0 aq.length]):=fun r X=>by rw[Qa0 (by simpa using l2),Qb2 hne];exact h2
   have s2':∀ r X o,(L.set i r++X).set 2 o=(L.set i r).set 2 o++X:=fun r X o=>Qq2 _ _ (by simpa using l2)
   have tkr:aq.take aq.length=aq:=Qk0;unfold bu aU wD at*;generalize hx3:aJ.map (Ar.d e)=x3 at*;have i1:=idx e1;have jJ:j<x3.length:=(aT e1)
   have hjl:(j:Int)<(x3.length:Int):=ae;have i4:=fun X=>idx (g2 X)
   have i5:=fun X=>idx (g1 X)
   have i6:=idx h1;have i7:=idx h2;have i8:=fun X=>idx (gi X)
   have i9:∀ r X (h:2<(L.set i r++X).length),(L.set i r++X)[2]=_:=fun r X h=>idx (g2' r X) h
   simp (maxSteps:=400000) [cqL,f1701,hj0,jJ,hjl,aW,t1,t2,f0,t0,e1,e2,e3,i1,i2,i3,i4,i5,i6,i7,i8,i9,q2,q3,g1,g2,g2',gi,h1,h2,h7,hg,sA,s2,s2',si,l1,l2,hil,tkr,m3,m4]
  ·rw[Qa0 (by simp;omega),Qb2 ae,Qb2 ae]
  ·rw[Qa0 (by simpa using l2)];exact Qd1 (by simpa using l2)
  ·rw[Qa0 (by simpa using hil),Qb2 ae];exact Qd1 hil
theorem abN (kk:Int)(ps:List Int)(sy st:Int)(bg fin es v:List D)(L:List ah)(h1:L[1]?=some (bu kk ps sy st bg fin es)):Ex E1 cqL (L_ v es.length .u L) (.exit 2,L_ v es.length (dB false) L):=by
 have l1:1<L.length:=(aT h1)
 apply e6;unfold L_;unfold bu at h1;have i1:=idx h1;simp[cqL,f1701,h1,i1,l1]
theorem abO (kk:Int)(ps:List Int)(sy:Int)(n:Nat)(hn:n<=100000)(bg v:List α)(fin es:List D)(h1:bg.length=n)(h2:v.length=n)(hb:∀ (j:Nat) (x y:α),bg[j]?=some x->v[j]?=some y->Ca E1 25 [.d (aU kk ps),.d (e x).d,.d (e y).d] (dB false,none))(mb:ah) :
  Ex E1 (.loop cnL) (Qa (v.map fun x=>(e x).d) 0 .u [mb,bu kk ps sy n (bg.map fun x=>(e x).d) fin es]) (.exit 0,Qa (v.map fun x=>(e x).d) n (dB false) [mb,bu kk ps sy n (bg.map fun x=>(e x).d) fin es]):=by
 obtain⟨r,h3,h4⟩:=Ex.inv (E:=E1) (b:=cnL) (fun j:Nat=>Qa (v.map fun x=>(e x).d) j .u [mb,bu kk ps sy n (bg.map fun x=>(e x).d) fin es]) (fun j=>n-j) (fun j=>j<=n)
  (fun r=>r=(.exit 0,Qa (v.map fun x=>(e x).d) n (dB false) [mb,bu kk ps sy n (bg.map fun x=>(e x).d) fin es])) (fun j hj=>by
  rcases Qg0 j n with h|h
  ·have a1:bg[j]?=some (bg[j]'(by omega)):=Qa1 ae;have a2:v[j]?=some (v[j]'(by omega)):=Qa1 ae;exact .inl ⟨j+1,X5 kk ps sy n hn _ fin es _ j h (e (bg[j]'(by omega))) (e (v[j]'(by omega))) (by simp[a1]) (by simp[a2]) (hb j _ _ a1 a2) mb,ae,ae⟩
  ·obtain rfl:j=n:=ae;exact .inr ⟨_,abM kk ps sy j _ fin es _ mb,aC,rfl⟩) 0 (Qr1 _)
 exact h4 ▸ h3
theorem abP (kk:Int)(ps:List Int)(sy st:Int)(bg fin:List D)(aJ:List (Ar α))(h3:aJ.length<=100000)(n:Nat)(v:List α)(hv:v.length=n)(tm:α->α->α)(z:α)(hin:∀ a ∈ aJ,(0<=a.f/\a.f<n)/\(0<=a.t/\a.t<n))
  (hc:∀ a ∈ aJ,Ca E1 21 [.d (aU kk ps),.d (e (v.getD a.f.toNat z)).d,.d (e a.x).d] (.d (e (tm (v.getD a.f.toNat z) a.x)).d,none)/\Ca E1 25 [.d (aU kk ps),.d (e (tm (v.getD a.f.toNat z) a.x)).d,.d (e (v.getD a.t.toNat z)).d] (dB false,none))
  (L:List ah) (h1:L[1]?=some (bu kk ps sy st bg fin (aJ.map (Ar.d e)))) (h2:L[2]?=some (dP kk ps sy st fin bg (.d (.n 11)))) :
  ∃ px L',Ex E1 (.loop cqL) (L_ (v.map fun x=>(e x).d) 0 .u L) (.exit 2,L_ (v.map fun x=>(e x).d) aJ.length (dB false) L')/\(∀ i,i<2->L'[i]?=L[i]?)/\L'[2]?=some (dP kk ps sy st fin bg px)/\Fj px L' ((aJ.map Ar.turn).map (Ar.d e)):=by
 obtain⟨r,k1,px,L',rfl,h4,h5,h6⟩:=Ex.fold (E:=E1) (b:=cqL) aJ (fun(aq:List D) a=>aq++[a.turn.d e]) []
  (fun j aq st'=>aq.length=j/\∃ px M,st'=L_ (v.map fun x=>(e x).d) j .u M/\(∀ i,i<2->M[i]?=L[i]?)/\M[2]?=some (dP kk ps sy st fin bg px)/\Fj px M aq)
  (fun aq r=>∃ px M,r=(.exit 2,L_ (v.map fun x=>(e x).d) aJ.length (dB false) M)/\(∀ i,i<2->M[i]?=L[i]?)/\M[2]?=some (dP kk ps sy st fin bg px)/\Fj px M aq)
  (fun j a st' ha ⟨hlen,px,M,hst,q1,q2,q3⟩=>by
   subst hst;have hj:j<aJ.length:=(aT ha)
   obtain⟨⟨a1,a2⟩,a3,a4⟩:=hin a (Qa2 ha);obtain⟨c1,c2⟩:=hc a (Qa2 ha);obtain⟨qM,M',r1,r2,r3,r4⟩:=X6 (e:=e) kk ps sy st bg fin aJ ae v M px _ ae ((q1 1 ae).trans h1) q2 q3 j a ha a.f.toNat a.t.toNat ae ae _ _ _ (getD_at (z:=z) ae) (getD_at (z:=z) ae) c1 c2;exact⟨_,r1,by rw[Qb0,hlen];rfl,qM,M',rfl,fun i hi=>(r2 i hi).trans (q1 i hi),r3,r4⟩)
  (fun st' ⟨hlen,px,M,hst,q1,q2,q3⟩=>by
   subst hst;have n3:(aJ.map (Ar.d e)).length=aJ.length:=aC;have:=abN kk ps sy st bg fin (aJ.map (Ar.d e)) (v.map fun x=>(e x).d) M ((q1 1 ae).trans h1);rw[n3]at this;exact⟨_,this,aC,px,M,rfl,q1,q2,q3⟩)
  (st:=L_ (v.map fun x=>(e x).d) 0 .u L) ⟨rfl,.d (.n 11),L,rfl,fun i _=>rfl,h2,.inl ⟨rfl,rfl⟩⟩
 rw[zH,Qv2]at h6;refine⟨px,L',k1,h4,h5,?_⟩;rw[Q2];exact h6
theorem Oc (aw:Ca E1 1706 [] (dB true,none))(vi:Bool)(em:Bool)(st:Int)(li lf la:List Int)(kk:Int)(n:Nat)(hn:n<=64)(bg fin v x:List α)(aJ:List (Ar α))(h3:aJ.length<=1000)(hi:bg.length=n)(hv:v.length=n)(tm:α->α->α)(z:α)(hin:∀ a ∈ aJ,(0<=a.f/\a.f<n)/\(0<=a.t/\a.t<n))
  (b1:∀ (j:Nat) (x y:α),bg[j]?=some x->v[j]?=some y->Ca E1 25 [.d (aU kk []),.d (e x).d,.d (e y).d] (dB false,none))
  (b2:∀ a ∈ aJ,Ca E1 21 [.d (aU kk []),.d (e (v.getD a.f.toNat z)).d,.d (e a.x).d] (.d (e (tm (v.getD a.f.toNat z) a.x)).d,none)/\Ca E1 25 [.d (aU kk []),.d (e (tm (v.getD a.f.toNat z) a.x)).d,.d (e (v.getD a.t.toNat z)).d] (dB false,none))
  (h1:Ca E1 1707 [dB vi,.d (.a [vI st,.s 1 (LK .i64 li),.s 1 (LK .i64 lf),.s 1 (LK .i64 la),vB em])] (.d (jh kk [] 2 n (bg.map fun x=>(e x).d) (fin.map fun x=>(e x).d) (aJ.map (Ar.d e))),none))
  (h2:Ca E1 1715 [.d (jh kk [] 2 n (bg.map fun x=>(e x).d) (fin.map fun x=>(e x).d) (aJ.map (Ar.d e)))] (.d (.t [.s 8 (v.map fun x=>(e x).d),vI 0]),none))
  (h4:Ca E1 1714 [.d (jh kk [] 2 n (bg.map fun x=>(e x).d) (fin.map fun x=>(e x).d) (aJ.map (Ar.d e)))] (.d (.t [.s 8 (x.map fun x=>(e x).d),vI 0]),none))
  (h5:Ca E1 1715 [.d (jh kk [] 2 n (fin.map fun x=>(e x).d) (bg.map fun x=>(e x).d) ((aJ.map Ar.turn).map (Ar.d e)))] (.d (.t [.s 8 (x.map fun x=>(e x).d),vI 0]),none))
  (h6:Ca E1 1046 [.d (.s 8 (x.map fun x=>(e x).d)),.d (.s 8 (x.map fun x=>(e x).d))] (dB true,none)) :
  Ca E1 1701 [dB vi,.d (.a [vI st,.s 1 (LK .i64 li),.s 1 (LK .i64 lf),.s 1 (LK .i64 la),vB em])] (dB true,none):=by
 have hL1:=fun mb=>abO (e:=e) kk [] 2 n ae bg v (fin.map fun x=>(e x).d) (aJ.map (Ar.d e)) hi hv b1 mb
 have hL2:=fun L=>abP (e:=e) kk [] 2 n (bg.map fun x=>(e x).d) (fin.map fun x=>(e x).d) aJ ae n v hv tm z hin b2 L
 obtain⟨K,hK,t0,t1,t2,t4,t5,t6⟩:=(aw.j (h1.j (h2.j (h4.j (h5.j h6.any))))).at 0;have hvl:(v.map fun x=>(e x).d).length=n:=by simpa using hv
 clear h1 h2 h4 h5 h6 aw hK b1 b2 hin;generalize (bg.map fun x=>(e x).d)=is,(fin.map fun x=>(e x).d)=fs,(v.map fun x=>(e x).d)=vs,(x.map fun x=>(e x).d)=xs at*;generalize hes:aJ.map (Ar.d e)=es at*;generalize hts:(aJ.map Ar.turn).map (Ar.d e)=ts at*;generalize aJ.length=c at*;have e0:LK .i64 []=[]:=rfl;obtain⟨mb,hmb⟩:∃ mb,mb=ah.box [dI st,.d (.s 1 (LK .i64 li)),.d (.s 1 (LK .i64 lf)),.d (.s 1 (LK .i64 la)),dB em]:=⟨_,rfl⟩
 obtain⟨ab,hab⟩:∃ ab,ab=bu kk [] 2 n is fs es:=⟨_,rfl⟩
 obtain⟨px,L,j1,j2,j3,j4⟩:=hL2 [mb,ab,dP kk [] 2 n fs is (.d (.n 11))] (by rw[hab];rfl) rfl;replace hL1:=hL1 mb;rw[<-hab]at hL1;obtain⟨T,rfl⟩:=three ((j2 0 ae).trans rfl) ((j2 1 ae).trans rfl) j3;clear hL2 j2 j3;have sA:Ex E1 f1701.body.l (st0 (dB vi::.d (.a [vI st,.s 1 (LK .i64 li),.s 1 (LK .i64 lf),.s 1 (LK .i64 la),vB em])::ags) [])
   (.norm,(st0 (dB vi::.u::rL 0::agr) [mb])):=by
  apply e6;clear t0 t1 t2 t4 t5 t6 hL1 j1;rw[hmb];simp[f1701]
 have sB := nx sA f1701.body.r.l (st0 (.u::.u::.u::.u::rL 1::TS) [mb,ab]) (by
  refine Ex.of (n:=K+100) ?_;clear t0 t2 t4 t5 t6 hL1 j1 sA;rw[hmb,hab];unfold bu;unfold jh at t1;simp only[show LK .i64 []=[] from rfl]at*;simp[f1701,t1])
 have sC := nx sB f1701.body.r.r.l (st0 (.u::.u::.u::.u::rL 1::.d (.s 8 vs)::dI 0::EZ) [mb,ab]) (by
  refine Ex.of (n:=K+100) ?_;clear t0 t1 t4 t5 t6 hL1 j1 sA sB;rw[hab];unfold bu;unfold jh at t2;simp only[show LK .i64 []=[] from rfl]at*;simp[f1701,t2,rH])
 have sD := nx sC f1701.body.r.r.r.l (st0 [.u,.u,.u,.u,rL 1,.d (.s 8 vs),.u,.u,.u,.u,.u,.u,.u,.u,.u,dB false,.u,.u,.u,.u] [mb,ab]) (by
  refine Ex.of (n:=100) ?_;clear t0 t1 t2 t4 t5 t6 hL1 j1 sA sB sC;rw[hab];unfold bu;simp[f1701,hvl])
 have sE := nx sD f1701.body.r.r.r.r.l.l (Qa vs 0 .u [mb,ab]) (by
  apply e6;clear t0 t1 t2 t4 t5 t6 hL1 j1 sA sB sC sD;unfold Qa;rw[show((0:Nat):Int)=0 from rfl];simp[f1701])
 have sF:Ex E1 f1701.body.r.r.r.r.r.l (Qa vs n (dB false) [mb,ab])
   (.norm,(st0 (.u::.u::.u::.u::rL 1::.d (.s 8 vs)::.u::.u::rL 2::GX) [mb,ab,ab])):=by
  apply e6;clear t0 t1 t2 t4 t5 t6 hL1 j1 sA sB sC sD sE;unfold Qa;rw[hab];unfold bu;simp[f1701]
 have sG := nx sF f1701.body.r.r.r.r.r.r.l (st0 (.u::.u::.u::.u::rL 1::.d (.s 8 vs)::.u::.u::rL 2::GX) [mb,ab,dP kk [] 2 n fs is (.d (.n 11))]) (by
  apply e6;clear t0 t1 t2 t4 t5 t6 hL1 j1 sA sB sC sD sE sF;rw[hab];unfold bu dP;simp[f1701,checked,mJ,Dt,Ref.abs,mi,FV.target])
 have sH := nx sG f1701.body.r.r.r.r.r.r.r.l.l (L_ vs 0 .u [mb,ab,dP kk [] 2 n fs is (.d (.n 11))]) (by
  apply e6;clear t0 t1 t2 t4 t5 t6 hL1 j1 sA sB sC sD sE sF sG;unfold L_;rw[show((0:Nat):Int)=0 from rfl];simp[f1701])
 have sI:Ex E1 f1701.body.r.r.r.r.r.r.r.r.l (L_ vs c (dB false) (mb::ab::dP kk [] 2 n fs is px::T))
   (.norm,(st0 (.u::.u::.u::.u::.u::.u::.u::.u::rL 2::.u::.u::.d (.s 8 xs)::dI 0::rX) (mb::ab::dP kk [] 2 n fs is px::T))):=by
  refine Ex.of (n:=K+100) ?_;clear t0 t1 t2 t5 t6 hL1 j1 sA sB sC sD sE sF sG sH;unfold L_;rw[hab];unfold bu;unfold jh at t4;simp only[show LK .i64 []=[] from rfl]at*;simp[f1701,t4,rH]
 have sJ:∃ L',Ex E1 f1701.body.r.r.r.r.r.r.r.r.r.l (st0 (.u::.u::.u::.u::.u::.u::.u::.u::rL 2::.u::.u::.d (.s 8 xs)::dI 0::rX) (mb::ab::dP kk [] 2 n fs is px::T))
   (.norm,(st0 [.u,.u,.u,.u,.u,.u,.u,.u,.u,.u,.u,.d (.s 8 xs),dI 0,.d (.s 8 xs),dI 0,.u,.u,.u,.u,.u] (L'))):=by
  clear t0 t1 t2 t4 t6 hL1 j1 sA sB sC sD sE sF sG sH sI;unfold dP;unfold jh at t5;simp only[show LK .i64 []=[] from rfl]at*;rcases j4 with ⟨rfl,rfl⟩|⟨i,av,g5,rfl,g7⟩
  ·refine⟨mb::ab::.box [dI kk,.d (.s 1 []),dI 2,dI n,.d (.s 8 fs),.d (.s 8 is),.d (.n 11)]::T,Ex.of (n:=K+200) ?_⟩;simp[f1701,t5,rH]
  ·obtain⟨i',rfl⟩:∃ i',i=i'+3:=⟨i-3,ae⟩
   simp only[Xl1]at g7;have il:i'<T.length:=(aT g7)
   have i7:=idx g7;have hv9:ah.view av 11 0 ts.length (.row av 11 ts)=some ts:=by simp[ah.view]
   generalize ts.length=tl at*;refine⟨mb::ab::.box [dI kk,.d (.s 1 []),dI 2,dI n,.d (.s 8 fs),.d (.s 8 is),.ls (.loc (i'+3)) av 11 0 tl]::T.set i' (.h_ av 11 ts),Ex.of (n:=K+200) ?_⟩;simp[f1701,t5,rH,g7,i7,il,hv9]
 obtain⟨L',sJ⟩:=sJ;have sK:∃ st',Ex E1 f1701.body.r.r.r.r.r.r.r.r.r.r (st0 [.u,.u,.u,.u,.u,.u,.u,.u,.u,.u,.u,.d (.s 8 xs),dI 0,.d (.s 8 xs),dI 0,.u,.u,.u,.u,.u] (L')) (.ret,st')/\finish f1701 st'=some (dB true,none):=by
  clear t1 t2 t4 t5 hL1 j1 sA sB sC sD sE sF sG sH sI sJ j4;refine⟨_,Ex.of (n:=K+60) (by
   simp[f1701,t0,t6];rfl),?_⟩
  simp[finish,show f1701.res=[.var 3] from rfl,show f1701.ref=false from rfl]
 obtain⟨st',e1,e2⟩:=sK;exact Ca.body (o:=.ret) rfl (aO 1701 f1701:E1.fn _=_) rfl (sA.seq (sB.seq (sC.seq (sD.seq ((Ex.seq sE (Ex.block hL1)).seq (sF.seq (sG.seq ((Ex.seq sH (Ex.block j1)).seq (sI.seq (sJ.seq e1)))))))))) aC e2
end Fi.S
noncomputable section
namespace Fi.S
open Go Fi
set_option maxHeartbeats 8000000
set_option maxRecDepth 10000
theorem v23 {k:Int}(h:k=2\/k=3):aM k []=true:=by rcases h with rfl|rfl<;>decide
theorem s23 {k:Int}(h:k=2\/k=3):single k=true:=by rcases h with rfl|rfl<;>decide
theorem acw {k:Int}(h:k=2\/k=3){S M:Nat}(hS:S<=1000){x y:Sv}(hx:x.of k S M)(hy:y.of k S M):Pp k x.w y.w (dn k x y).w:=by
 rcases h with rfl|rfl
 ·obtain⟨i,n,rfl,_⟩:=tC hx;obtain⟨j,m,rfl,_⟩:=tC hy;obtain⟨N,t⟩:=(VQ i j n m).get;exact⟨N,fun h=>absurd h bS,fun _=>t⟩
 ·obtain⟨a,rfl,_,_,ha⟩:=tF hx;obtain⟨b,rfl,_,_,hb⟩:=tF hy;obtain⟨N,t⟩:=Rk a b ae ae;exact⟨N,fun _ B j o hB m=>t B j _ _ _ _ _ _ _ _ hB m,fun h=>absurd rfl h⟩
theorem abx {k:Int}(h:k=2\/k=3){S M:Nat}(hS:S<=1000){x y:Sv}(hx:x.of k S M)(hy:y.of k S M):Du k x.w y.w (cK x y).w:=by
 unfold Du;rcases h with rfl|rfl
 ·obtain⟨i,n,rfl,h1,h2,_⟩:=tC hx;obtain⟨j,m,rfl,h3,h4,_⟩:=tC hy;exact Rf i j n m ⟨h1,h2⟩ ⟨h3,h4⟩
 ·obtain⟨a,rfl,_,_,ha⟩:=tF hx;obtain⟨b,rfl,_,_,hb⟩:=tF hy;exact F7 a b ae ae
theorem aj3:cz E0 200 86 [.d (.s 6 [])] []=some (.d (.s 6 []),none):=aaN (by kernel_rfl)
theorem sj {k:Int}(h:k=2\/k=3){S M:Nat}(hS:S<=1000){x:Sv}(hx:x.of k S M):Ca E1 53 [.d (aU k []),.d x.w.d] (.d x.w.d,none):=by
 have hk:=s23 h;have hc:=Ca.gM (FP k [] x.w aC (V_ hx hS));have hm:=DR (eO hk).1 (aaR hk hx);rw[mk_one hk]at hm;rw[hm]at hc;obtain⟨s,l1,l2,c,b,u,e,t1⟩:∃ s l1 l2 c b u,x.w.d=wD s l1 l2 c b u [] []/\Ca E1 85 [.d (.a [vB s,.s 1 l1,.s 1 l2])] (.d (.a [vB s,.s 1 l1,.s 1 l2]),none):=by
  rcases h with rfl|rfl
  ·obtain⟨i,n,rfl,_⟩:=tC hx;have t0:=Ca.gM (iP 0 (by have:=jD;omega));rw[uE]at t0;exact⟨_,_,_,_,_,_,rfl,t0⟩
  ·obtain⟨a,rfl,_,_,ha⟩:=tF hx;exact⟨_,_,_,_,_,_,rfl,Ca.gM (iP a ae)⟩
 rw[e]at hc ⊢;obtain⟨K,hK,a0,a1,a2⟩:=(hc.j (t1.j ((Ca.gM (Ca.of aj3)).any))).at 0;clear hc t1 e hm hK;refine Ca.bQ (n:=K+200) ?_;rw[aA rfl (aO 53 f53:E1.fn _=_) rfl];unfold wD aU at*;generalize LK .i64 []=l0 at*;simp[aD,f53,a0,a1,a2]
theorem qdd (x:Rat):∃ s n d,(Sv.q x).w.d=wD s n d 0 false 0 [] []/\qD x=.a [vB s,.s 1 n,.s 1 d]:=⟨_,_,_,rfl,rfl⟩
theorem acx {k:Int}(h:k=2\/k=3){S M:Nat}(hS:S<=1000){x y:Sv}(hx:x.of k S M)(hy:y.of k S M):Ca E1 19 [.d (aU k []),.d x.w.d,.d y.w.d] (.d (dn k x y).w.d,none):=by
 have tx:=sj h hS hx;have ty:=sj h hS hy;have tv:=Ca.gM (Ca.bQ (fJ 0 k []));rw[v23 h]at tv;obtain⟨m0,a0⟩:=tv.any;obtain⟨m1,a1⟩:=tx.any;obtain⟨m2,a2⟩:=ty.any;rcases h with rfl|rfl
 ·obtain⟨i,n,rfl,hn0,hn1,hin⟩:=tC hx;obtain⟨j,m,rfl,hm0,hm1,hjm⟩:=tC hy;obtain⟨K,hK⟩:∃ K,K=m0+m1+m2:=⟨_,rfl⟩
  replace a0:=a0 K ae;replace a1:=a1 K ae;replace a2:=a2 K ae;rw[RA];have hc1:∀ n,(Sv.c i n).w.d=wD false [] [] n i 0 [] []:=fun n=>rfl
  have hc2:∀ n,(Sv.c j n).w.d=wD false [] [] n j 0 [] []:=fun n=>rfl
  unfold jd;rw[hc1]at a1 tx;rw[hc2]at a2 ty
  by_cases h:m<n<;>cases i<;>cases j<;>(try obtain rfl:=hin rfl)<;>(try obtain rfl:=hjm rfl)<;>(try exact absurd h ae)<;>simp only[h,Xg1,Bool.not_false,Q60,Qs1,X01,Bool.or_true,Bool.true_or,Xc1,decide_true,decide_false,if_true,if_false,Qh1,hc1,hc2] <;>
  (clear hK tv tx ty;refine Ca.bQ (n:=K+300) ?_;rw[aA rfl (k19:E1.fn _=_) rfl];unfold wD aU at*;generalize LK .i64 []=l0 at*;simp[f19,a0,a1,a2,h])
 ·obtain⟨a,rfl,_,_,ha⟩:=tF hx;obtain⟨b,rfl,_,_,hb⟩:=tF hy;obtain⟨m3,a3⟩:=(Ca.gM (Cq a b ae ae)).any;obtain⟨K,hK⟩:∃ K,K=m0+m1+m2+m3:=⟨_,rfl⟩
  replace a0:=a0 K ae;replace a1:=a1 K ae;replace a2:=a2 K ae;replace a3:=a3 K ae;obtain⟨s1,n1,d1,e1,g1⟩:=qdd a;obtain⟨s2,n2,d2,e2,g2⟩:=qdd b;have ep:=Y9 a b
  by_cases hab:a<b
  ·rw[ep,if_pos hab];rw[decide_eq_true hab,g1,g2]at a3;simp only[e1,e2]at a1 a2 ⊢;clear hK tv tx ty;refine Ca.bQ (n:=K+300) ?_;rw[aA rfl (k19:E1.fn _=_) rfl];unfold wD aU at*;generalize LK .i64 []=l0 at*;simp[aD,f19,a0,a1,a2,a3]
  ·rw[ep,if_neg hab];rw[decide_eq_false hab,g1,g2]at a3;simp only[e1,e2]at a1 a2 ⊢;clear hK tv tx ty;refine Ca.bQ (n:=K+300) ?_;rw[aA rfl (k19:E1.fn _=_) rfl];unfold wD aU at*;generalize LK .i64 []=l0 at*;simp[aD,f19,a0,a1,a2,a3]
theorem ab' {k:Int}(h:k=2\/k=3){S M:Nat}(hS:S<=1000){x y:Sv}(hx:x.of k S M)(hy:y.of k S M):Ca E1 21 [.d (aU k []),.d x.w.d,.d y.w.d] (.d (cK x y).w.d,none):=by
 have tx:=sj h hS hx;have ty:=sj h hS hy;have tv:=Ca.gM (Ca.bQ (fJ 0 k []));rw[v23 h]at tv;obtain⟨m0,a0⟩:=tv.any;obtain⟨m1,a1⟩:=tx.any;obtain⟨m2,a2⟩:=ty.any;rcases h with rfl|rfl
 ·obtain⟨i,n,rfl,hn0,hn1,hin⟩:=tC hx;obtain⟨j,m,rfl,hm0,hm1,hjm⟩:=tC hy;obtain⟨K,hK⟩:∃ K,K=m0+m1+m2:=⟨_,rfl⟩
  replace a0:=a0 K ae;replace a1:=a1 K ae;replace a2:=a2 K ae;rw[Za];have w1:ak .i64 (n+m)=n+m:=wrap_i64 ae;have hc1:∀ i n,(Sv.c i n).w.d=wD false [] [] n i 0 [] []:=fun i n=>rfl
  rw[hc1]at a1 a2;cases i<;>cases j<;>by_cases h:1099511627776<n+m<;>simp only[h,Bool.true_or,Xc1,Bool.or_true,decide_true,decide_false,if_true,if_false,Qh1,Bool.or_false,hc1] <;>
  (clear hK tv tx ty;refine Ca.bQ (n:=K+300) ?_;rw[aA rfl (k21:E1.fn _=_) rfl];unfold wD aU at*;generalize LK .i64 []=l0 at*;simp[f21,a0,a1,a2,h,w1])
 ·obtain⟨a,rfl,_,_,ha⟩:=tF hx;obtain⟨b,rfl,_,_,hb⟩:=tF hy;obtain⟨m3,a3⟩:=(Ca.gM (Hq a b ae ae)).any;obtain⟨K,hK⟩:∃ K,K=m0+m1+m2+m3:=⟨_,rfl⟩
  replace a0:=a0 K ae;replace a1:=a1 K ae;replace a2:=a2 K ae;replace a3:=a3 K ae;obtain⟨s1,n1,d1,e1,g1⟩:=qdd a;obtain⟨s2,n2,d2,e2,g2⟩:=qdd b;rw[Y_];obtain⟨s3,n3,d3,e3,g3⟩:=qdd (a*b);rw[g1,g2,g3]at a3;rw[e1]at a1;rw[e2]at a2;rw[e1,e2,e3];clear hK tv tx ty;refine Ca.bQ (n:=K+300) ?_;rw[aA rfl (k21:E1.fn _=_) rfl];unfold wD aU at*;generalize LK .i64 []=l0 at*;simp[aD,f21,a0,a1,a2,a3]
section mk
variable {k:Int} (h:k=2\/k=3) {S M:Nat} (hS:S<=1000) {x y:List Sv} (hx:ik S M (dG k []) x) (hy:ik S M (dG k []) y)
include h hS hx
theorem ow:Ca E1 53 [.d (aU k []),.d (bN k x).d] (.d (bN k x).d,none):=by
 rw[En h]at hx;obtain⟨a,rfl,ha⟩:=jX hx;rw[mk_one (s23 h)];exact sj h hS ha
theorem N8:Ca E1 1104 [.d (aU k []),.d (bN k x).d] (dB (zx k [] x),none)/\Ca E1 1126 [.d (aU k []),.d (bN k x).d] (dB (zx k [] x),none):=by
 have hv:=v23 h;have ok1:=KE hv hS hx;have ok0:(bN k (bG k [])).OK:=KE hv (S:=1) (M:=1) ae (kP ae (bV hv));have ez:bN k (bG k [])=(dO k).w:=by
  show bN k ((dG k []).map dO)=_;rw[En h];exact mk_one (s23 h) _
 obtain⟨K,hK,a1,a2,a3,a4⟩:=((Ca.gM (pI _ ok1 _ ok0)).j ((Ca.gM (yU _ ok1 _ ok0)).j ((uJ hv).j ((uK (s23 h)).any)))).at 0;unfold zx;rw[show(dG k []).map dO=bG k [] from rfl]at a3;rw[<-ez]at a4;generalize (bN k x).eq (bN k (bG k []))=b at*;obtain⟨xs',Y6,Y7,xc,xb,xu,xp,xq,ex⟩:=(bN k x).aH;obtain⟨zs,wS,wT,zc,zb,zu,zp,zq,ez'⟩:=(bN k (bG k [])).aH;simp only[ex,ez']at*;clear ok1 ok0 hx ex ez ez' hv;unfold wD aU at*;generalize LK .i64 []=l9 at*;refine⟨?_,?_⟩
 ·refine Ca.bQ (n:=K+100) ?_;rw[aA rfl (aO 1104 f1104:E1.fn _=_) rfl];simp[f1104,a1,a3]
 ·refine Ca.bQ (n:=K+100) ?_;rw[aA rfl (aO 1126 f1126:E1.fn _=_) rfl];simp[f1126,a2,a4]
include hy
theorem qa:Ca E1 14 [.d (aU k []),.d (bN k x).d,.d (bN k y).d] (.d (bN k (bT (dG k []) x y)).d,none):=by
 have hs:=s23 h;have vx:=pV (v23 h) hS hx;have vy:=pV (v23 h) hS hy;rw[En h]at hx hy ⊢;obtain⟨a,rfl,ha⟩:=jX hx;obtain⟨b,rfl,hb⟩:=jX hy;show Ca E1 14 _ (.d (bN k [dn k a b]).d,none);rw[mk_one hs]at*;rw[mk_one hs]at*;rw[mk_one hs];exact V6 hs _ _ _ _ _ vx vy (acw h hS ha hb)
theorem aam:Ca E1 13 [.d (aU k []),.d (bN k x).d,.d (bN k y).d] (.d (bN k (bF x y)).d,none)/\Ca E1 21 [.d (aU k []),.d (bN k x).d,.d (bN k y).d] (.d (bN k (bF x y)).d,none):=by
 have hs:=s23 h;have vx:=pV (v23 h) hS hx;have vy:=pV (v23 h) hS hy;rw[En h]at hx hy;obtain⟨a,rfl,ha⟩:=jX hx;obtain⟨b,rfl,hb⟩:=jX hy;show Ca E1 13 _ (.d (bN k [cK a b]).d,none)/\Ca E1 21 _ (.d (bN k [cK a b]).d,none);rw[mk_one hs]at*;rw[mk_one hs]at*;rw[mk_one hs];exact⟨Rq hs _ _ _ _ _ vx vy (abx h hS ha hb),ab' h hS ha hb⟩
theorem aaG:Ca E1 19 [.d (aU k []),.d (bN k x).d,.d (bN k y).d] (.d (bN k (bT (dG k []) x y)).d,none):=by
 have hs:=s23 h;rw[En h]at hx hy ⊢;obtain⟨a,rfl,ha⟩:=jX hx;obtain⟨b,rfl,hb⟩:=jX hy;show Ca E1 19 _ (.d (bN k [dn k a b]).d,none);rw[mk_one hs,mk_one hs,mk_one hs];exact acx h hS ha hb
theorem N9:Ca E1 24 [.d (aU k []),.d (bN k x).d,.d (bN k y).d] (dB (dV k x y),none)/\Ca E1 25 [.d (aU k []),.d (bN k x).d,.d (bN k y).d] (dB (dV k x y),none):=by
 have hs:=s23 h;have vx:=pV (v23 h) hS hx;have vy:=pV (v23 h) hS hy;have tx:=ow h hS hx;have ty:=ow h hS hy;rw[En h]at hx hy;obtain⟨a,rfl,ha⟩:=jX hx;obtain⟨b,rfl,hb⟩:=jX hy;rw[mk_one hs]at*;rw[mk_one hs]at*;show Ca E1 24 _ (dB (uN k a b),none)/\Ca E1 25 _ (dB (uN k a b),none);rcases h with rfl|rfl
 ·obtain⟨i,n,rfl,_⟩:=tC ha;obtain⟨j,m,rfl,_⟩:=tC hb;exact⟨AL hs _ _ _ _ _ vx vy (Kk i j n m),IC _ _ i j n m tx ty⟩
 ·obtain⟨p,rfl,_,_,hp⟩:=tF ha;obtain⟨q,rfl,_,_,hq⟩:=tF hb;have e:uN 3 (.q p) (.q q)=decide (q<p):=by
   show((3:Int)==3&&decide (q<p))=_;simp
  rw[e];exact⟨AL hs _ _ _ _ _ vx vy (Dq p q ae ae),IB _ _ p q ae ae tx ty⟩
end mk
section wts
variable {k:Int} (h:k=2\/k=3)
include h
theorem acD:Ca E1 35 [.d (aU k [])] (.d (bN k (bG k [])).d,none):=by
 have:=uK (s23 h);rw[<-mk_one (s23 h)]at this;show Ca E1 35 _ (.d (bN k ((dG k []).map dO)).d,none);rw[En h];exact this
theorem N7 (v:Int)(hv:ib v):Ca E1 16 [.d (aU k []),dI v] (.d (bN k (pW k [] v)).d,none):=by
 rcases h with rfl|rfl
 ·show Ca E1 16 _ (.d (bN 2 [Dv 2 v]).d,none);rw[mk_one (s23 (.inl rfl))];unfold Dv;exact ahr v hv
 ·show Ca E1 16 _ (.d (bN 3 [Dv 3 v]).d,none);rw[mk_one (s23 (.inr rfl))];unfold Dv;exact aey v hv
theorem adH (l:List Int)(hl:∀ x ∈ l,ib x)(i one:Nat):Ca E1 1075 [.d (aU k []),.d (.s 1 (LK .i64 l)),dI i,dI one] (.d (bN k (o8 k [] l i one)).d,none) :=
 acu (N7 h) (aaQ (v23 h)).2 (acD h) l hl i one
theorem adI:TH k [] (bN k) (bT (dG k [])) (bN k (bG k [])) (zx k []) (GF k []) 20 where
 mono n x h:=⟨ae,h.2.1,h.2.2.mono ae⟩
 zero:=uJ (v23 h)
 pz x g:=by
  have h3:=g.ofs (v23 h) ae;have:=qa h ae h3 (kP (M:=216) ae (bV (v23 h)));rw[v_ (S:=3) (M:=216) ae (bV (v23 h)) h3]at this;exact this
 tk x g:=ow h ae (g.ofs (v23 h) ae)
 p1 n x y hn hx hy:=qa h (S:=3) (M:=216) ae (hx.ofs (v23 h) ae) (hy.ofs (v23 h) ae)
 p2 n x y hn hx hy:=aaG h (S:=3) (M:=216) ae (hx.ofs (v23 h) ae) (hy.ofs (v23 h) ae)
 pg n x y hn hx hy:=by
  have h1:=hx.1;refine⟨ae,(ah5 (bV (v23 h))).pp hx.2.1 hy.2.1,?_⟩;exact(Xr (bV (v23 h)) hx.2.1 hy.2.1 hx.2.2 hy.2.2).mono ae
 z1 n x hn hx:=(N8 h ae (hx.ofs (v23 h) ae)).1
 z2 n x hn hx:=(N8 h ae (hx.ofs (v23 h) ae)).2
theorem aaT {sy n:Nat}{bg fin:List (List Sv)}(hsy:1<=sy/\sy<=32)(hn:n<=64)(h1:bg.length=n)(h2:fin.length=n)(hi:∀ x ∈ bg,Wt k [] x)(hf:∀ x ∈ fin,Wt k [] x){l:List (Ar (List Sv))}(hl:aia k [] sy n l) :
  Ca E1 1024 [.d (Jf k [] sy n (bg.map (bN k)) (fin.map (bN k)) (bN k) l)] (.d (.t [Jf k [] sy n (bg.map (bN k)) (fin.map (bN k)) (bN k) (fB (bT (dG k [])) (zx k []) l),vI 0]),none):=by
 have hv:=v23 h;have h4:=hl.1;have ok:∀ {l:List (List Sv)},(∀ x ∈ l,Wt k [] x)->∀ w ∈ l.map (bN k),w.OK:=fun h w hw=>by obtain⟨x,hx,rfl⟩:=Qg1.1 hw;exact(PW hv (h x hx)).1
 have a1:=WS (e:=bN k) k [] sy n (bg.map (bN k)) (fin.map (bN k)) l (H6 hv) (by simp;omega) (by simp;omega) ae (ok hi) (ok hf) (fun a ha=>(PW hv (hl.2 a ha).1).1);rw[NY hv hsy hn h1 h2 hi hf hl]at a1;exact Ig (adI h) sy n bg fin l (H6 hv) ae ae ae ae (fun x hx=>(hi x hx).gf) (fun x hx=>(hf x hx).gf) (fun a ha=>(hl.2 a ha).1.gf) a1
end wts
end Fi.S
noncomputable section
namespace Fi.S
open Go Fi
set_option maxHeartbeats 8000000
set_option maxRecDepth 10000
section sizes
variable {k:Int} (h:k=2\/k=3)
theorem afg (h:k=2\/k=3):∀ x ∈ dG k [],single x=true:=bV (v23 h)
def Jh:Nat->Nat
 | 0=>3
 | j+1=>2*Jh j+2
theorem zJ:∀ {i j:Nat},i<=j->Jh i<=Jh j
 | i, 0, h => by obtain rfl : i = 0 :=ae
                 exact Qd2 _
 | i,j+1,h=>by
  rcases Qg0 i (j+1) with g|g
  ·have:=zJ (show i<=j by omega);show Jh i<=2*Jh j+2;omega
  ·obtain rfl:i=j+1:=ae;exact Qd2 _
theorem uO:∀ j,1<=Jh j
 | 0=>by decide
 | j+1=>by show 1<=2*Jh j+2;omega
def Og (k:Int)(j:Nat)(x:List Sv):Prop:=ik (Jh j) 1 (dG k []) x
theorem Og.gd {j:Nat}{x:List Sv}(g:Og k j x):Ba (dG k []) x:=⟨Jh j,1,uO j,Qd2 _,g⟩
theorem Og.mono {i j:Nat}{x:List Sv}(g:Og k i x)(hij:i<=j):Og k j x:=⟨g.1,fun a b c hb hc=>(g.2 a b c hb hc).mono (zJ hij) (Qd2 _)⟩
include h
theorem Og.wt {x:List Sv}(g:Wt k [] x):Og k 0 x:=by
 have g1:=g.1;unfold Og;rw[En h]at g1 ⊢;refine⟨g1.1,fun i k' y hk hy => ?_⟩;have g2:=g1.2 i k' y hk hy;have:k'=k:=by
  cases i with
  | zero=>simpa using hk.symm
  | succ i=>simp at hk
 subst this;rcases h with rfl|rfl
 ·obtain⟨i,n,rfl,a,b,c⟩:=tC g2;exact⟨rfl,a,b,c⟩
 ·obtain⟨q,rfl,a,b,c⟩:=tF g2;exact⟨.inr ⟨rfl,a,b⟩,c⟩
theorem Og.zero (j:Nat):Og k j (bG k []):=kP (uO j) (afg h)
theorem Og.times {j:Nat}{x y:List Sv}(gx:Og k j x)(gy:Og k j y):Og k (j+1) (bF x y):=by
 have:=DN (uO j) (Qd2 1) (afg h) gx gy;refine⟨this.1,fun a b c hb hc=>(this.2 a b c hb hc).mono ?_ (Qd2 _)⟩;show 1*(Jh j+Jh j+1)+1<=2*Jh j+2;omega
theorem Lc {j:Nat}(hj:j<=4){x y:List Sv}(gx:Og k j x)(gy:Og k j y):Ca E1 13 [.d (aU k []),.d (bN k x).d,.d (bN k y).d] (.d (bN k (bF x y)).d,none)/\Ca E1 21 [.d (aU k []),.d (bN k x).d,.d (bN k y).d] (.d (bN k (bF x y)).d,none):=by
 have h4:Jh j<=78:=zJ hj;exact aam h ae gx gy
theorem uP {j:Nat}(hj:j<=5){x y:List Sv}(gx:Og k j x)(gy:Og k j y):Ca E1 24 [.d (aU k []),.d (bN k x).d,.d (bN k y).d] (dB (dV k x y),none)/\Ca E1 25 [.d (aU k []),.d (bN k x).d,.d (bN k y).d] (dB (dV k x y),none):=by
 have h4:Jh j<=158:=zJ hj;exact N9 h ae gx gy
theorem X7 {j:Nat}(hj:j<=5){x:List Sv}(gx:Og k j x):Ca E1 14 [.d (aU k []),.d (bN k x).d,.d (bN k (bG k [])).d] (.d (bN k x).d,none):=by
 have h4:Jh j<=158:=zJ hj;have:=qa h ae gx (Og.zero h j);rw[show bG k []=(dG k []).map dO from rfl,v_ (S:=Jh j) (M:=1) (uO j) (afg h) gx]at this;exact this
end sizes
section sel
variable {α:Type} {bt:α->α->Bool} {tm:α->α->α} {z:α} {Q:α->Prop}
theorem zK {l:List α}(hz:Q z)(h:∀ x ∈ l,Q x)(i:Nat):Q (l.getD i z):=b_ hz h i
theorem X8 (v:List α):∀ (l:List (Ar α)) (out:List α),(∀ x ∈ out,Q x)->(∀ a ∈ l,Q (tm a.x (v.getD a.t.toNat z)))->∀ x ∈ l.foldl (xY bt tm z v) out,Q x
 | [],_,ho,_=>ho
 | a::l,out,ho,h=>by
  rw[Ql1];refine X8 v l _ (fun x hx => ?_) fun b hb=>h b (by simp[hb])
  unfold xY at hx;split at hx
  ·rcases Q41 hx with g|rfl
   ·exact ho x g
   ·exact h a aC
  ·exact ho x hx
theorem acR (hz:Q z)(n:Nat):∀ x ∈ List.replicate n z,Q x:=fun x hx=>by rw[Xf2 hx];exact hz
theorem afh {u v:List α}(hu:∀ x ∈ u,Q x)(hv:∀ x ∈ v,Q x):∀ x ∈ lV bt u v,Q x:=fun x hx=>by
 unfold lV at hx;obtain⟨i,hi,rfl⟩:=Xd0 hx;rw[List.getElem_zipWith];split
 ·exact hv _ (Qi0 _)
 ·exact hu _ (Qi0 _)
theorem Od (n:Nat)(l:List (Ar α))(v:List α):∀ k,PB (tO bt tm z n l v) bt k=XP bt tm z n l v k
 | 0=>rfl
 | k+1=>by
  show lV bt (PB (tO bt tm z n l v) bt k) (tO bt tm z n l v (k+1))=lV bt (XP bt tm z n l v k) (tO bt tm z n l v (k+1));rw[Od n l v k]
end sel
section pot
variable {k:Int} (h:k=2\/k=3)
abbrev mD (k:Int)(n:Nat)(l:List (Ar (List Sv))):Prop:=l.length<=11/\∀ a ∈ l,Wt k [] a.x/\(0<=a.f/\a.f<n)/\(0<=a.t/\a.t<n)
theorem mD.pa {n:Nat}{l:List (Ar (List Sv))}(hl:mD k n l):PA (Ba (dG k [])) l:=fun a ha=>(hl.2 a ha).1.gd
theorem mD.ins {n:Nat}{l:List (Ar (List Sv))}(hl:mD k n l):∀ a ∈ l,a.f.toNat<n/\a.t.toNat<n:=fun a ha=>by
 obtain⟨_,g1,g2⟩:=hl.2 a ha;omega
theorem mD.turn {n:Nat}{l:List (Ar (List Sv))}(hl:mD k n l):mD k n (l.map Ar.turn):=⟨by rw[Qj1];exact hl.1,fun a ha=>by
 obtain⟨b,hb,rfl⟩:=Qg1.1 ha;obtain⟨g0,g1,g2⟩:=hl.2 b hb;exact⟨g0,g2,g1⟩⟩
include h
theorem wC {n:Nat}{fin:List (List Sv)}(hf:∀ x ∈ fin,Wt k [] x){l:List (Ar (List Sv))}(hl:mD k n l):∀ j,∀ x ∈ tO (dV k) bF (bG k []) n l fin j,Og k j x
 | 0=>fun x hx=>Og.wt h (hf x hx)
 | j+1=>X8 _ l _ (acR (Og.zero h _) n) fun a ha=>Og.times h ((Og.wt h (hl.2 a ha).1).mono (Qr1 _)) (zK (Og.zero h j) (wC hf hl j) _)
omit h in
theorem Ld {n:Nat}{fin:List (List Sv)}(lf:fin.length=n)(l:List (Ar (List Sv))):∀ j,(tO (dV k) bF (bG k []) n l fin j).length=n
 | 0=>lf
 | j+1=>K9 ..
theorem X9 {n:Nat}{fin:List (List Sv)}(hf:∀ x ∈ fin,Wt k [] x){l:List (Ar (List Sv))}(hl:mD k n l):∀ j,∀ x ∈ PB (tO (dV k) bF (bG k []) n l fin) (dV k) j,Og k j x
 | 0=>wC h hf hl 0
 | j+1=>afh (fun x hx=>(X9 hf hl j x hx).mono ae) (wC h hf hl (j+1))
theorem abQ {n:Nat}(hn:n<=4)(n0:0<n)(sy:Int)(bg:List D){fin:List (List Sv)}(hf:∀ x ∈ fin,Wt k [] x)(lf:fin.length=n){l:List (Ar (List Sv))}(hl:mD k n l) :
  Ca E1 1712 [.d (jh k [] sy n bg (fin.map fun x=>(bN k x).d) (l.map (Ar.d (bN k))))] (.d (.s 1 ((List.range n).map fun j=>.s 8 ((tO (dV k) bF (bG k []) n l fin j).map fun x=>(bN k x).d))),none):=by
 have hl1:=hl.1;refine Sl k [] sy n ae n0 bg _ (fun j=>(tO (dV k) bF (bG k []) n l fin j).map fun x=>(bN k x).d) fun j hj => ?_
 refine Oa (e:=bN k) k [] sy n ae n0 bg _ l ae (fun a ha=>(hl.2 a ha).2) _ (Ld lf l j) (dV k) bF (bG k []) (uJ (v23 h)) fun i a ha => ?_
 have ga:=(Og.wt h (hl.2 a (Qa2 ha)).1).mono (Qr1 j);have gv:=zK (z:=bG k []) (Og.zero h j) (wC h hf hl j) a.t.toNat;have gt:=Og.times h ga gv;have go:Og k (j+1) (((l.take i).foldl (xY (dV k) bF (bG k []) (tO (dV k) bF (bG k []) n l fin j)) (List.replicate n (bG k []))).getD a.f.toNat (bG k [])) :=
  zK (Og.zero h _) (X8 _ _ _ (acR (Og.zero h _) n) fun b hb=>Og.times h ((Og.wt h (hl.2 b (Qn1 hb)).1).mono (Qr1 _)) (zK (Og.zero h j) (wC h hf hl j) _)) _
 exact⟨(Lc h ae ga gv).1,(uP h ae gt go).1⟩
theorem Qb {n:Nat}(hn:n<=4)(n0:0<n)(sy:Int)(bg:List D){fin:List (List Sv)}(hf:∀ x ∈ fin,Wt k [] x)(lf:fin.length=n){l:List (Ar (List Sv))}(hl:mD k n l) :
  Ca E1 1713 [.d (jh k [] sy n bg (fin.map fun x=>(bN k x).d) (l.map (Ar.d (bN k))))] (.d (.s 8 ((jB (bT (dG k [])) bF (bG k []) n (l.map Ar.turn) fin (n-1)).map fun x=>(bN k x).d)),none):=by
 have e:jB (bT (dG k [])) bF (bG k []) n (l.map Ar.turn) fin (n-1)=PB (tO (dV k) bF (bG k []) n l fin) (dV k) (n-1):=by
  rw[Od];exact(N_ (X3 h).gm (fun hx hy=>xZ h hx hy) hl.pa hl.ins (fun x hx=>(hf x hx).gd) lf (n-1)).symm
 rw[e];exact abK (e:=bN k) k [] sy n ae n0 bg _ _ _ (Ld lf l) (dV k) (bG k []) (abQ h hn n0 sy bg hf lf hl) (uJ (v23 h))
  (fun j hj w hw=>X7 h ae (wC h hf hl j w hw))
  (fun j i w r hj hw hr=>(uP h (j:=j+1) ae (wC h hf hl (j+1) w (Qa2 hw)) ((X9 h hf hl j r (Qa2 hr)).mono ae)).1)
theorem X_ {n:Nat}{fin:List (List Sv)}(hf:∀ x ∈ fin,Wt k [] x)(lf:fin.length=n){l:List (Ar (List Sv))}(hl:mD k n l)(j:Nat):∀ x ∈ jB (bT (dG k [])) bF (bG k []) n l fin j,Og k j x:=by
 have e:jB (bT (dG k [])) bF (bG k []) n l fin j=PB (tO (dV k) bF (bG k []) n (l.map Ar.turn) fin) (dV k) j:=by
  rw[Od,N_ (X3 h).gm (fun hx hy=>xZ h hx hy) hl.turn.pa hl.turn.ins (fun x hx=>(hf x hx).gd) lf j,Gu]
 rw[e];exact X9 h hf hl.turn j
theorem abR {x y:List Sv}(hx:Wt k [] x)(hy:Wt k [] y):Wt k [] (bT (dG k []) x y):=by
 rw[<-xZ h hy.gd hx.gd];split
 ·exact hy
 ·exact hx
theorem Eo {n:Nat}{dS:List Sv->Bool}{l:List (Ar (List Sv))}(hl:mD k n l):mD k n (fB (bT (dG k [])) dS l):=by
 refine⟨RY l 11 hl.1,fun a ha => ?_⟩;have key:∀ (l p:List (Ar (List Sv))),(∀ a ∈ l,Wt k [] a.x)->(∀ a ∈ p,Wt k [] a.x)->∀ a ∈ l.foldl (fun p x=>bB (bT (dG k [])) x p) p,Wt k [] a.x:=by
  intro l
  induction l with
  | nil=>intro p _ hp;exact hp
  | cons x l ih =>
   intro p hl hp;have hx:=hl x aC;rw[Ql1];exact ih _ (fun a ha=>hl a (by simp[ha])) (nK (bT (dG k [])) x (fun a=>Wt k [] a.x) (fun a=>Wt k [] a.x) hx (fun y hy=>hy) (fun y hy=>abR h hy hx) p hp)
 obtain⟨b,hb,e1,e2,e3⟩:=(qU (pl:=bT (dG k [])) (l:=l) a).1 ⟨a,(Q31.1 ha).1,rfl,rfl,rfl⟩;obtain⟨_,g1,g2⟩:=hl.2 b hb;exact⟨key l [] (fun a ha=>(hl.2 a ha).1) (fun a ha=>by cases ha) a (Q31.1 ha).1,e1 ▸ g1,e3 ▸ g2⟩
end pot
theorem IG (k:Int)(sy st:Int)(bg fin:List (List Sv))(l:List (Ar (List Sv))):Jf k [] sy st (bg.map (bN k)) (fin.map (bN k)) (bN k) l=jh k [] sy st (bg.map fun x=>(bN k x).d) (fin.map fun x=>(bN k x).d) (l.map (Ar.d (bN k))):=by
 unfold Jf;rw[Q2,Q2];rfl
theorem Oe (vi em:Bool)(st:Int)(li lf la:List Int)(hli:∀ x ∈ li,ib x)(hlf:∀ x ∈ lf,ib x)(hla:∀ x ∈ la,ib x)(k:Int)(hk:k=if vi then 3 else 2) :
  ∃ (n:Nat) (bg fin:List (List Sv)) (m:List (Ar (List Sv))),n<=4/\0<n/\bg.length=n/\fin.length=n/\(∀ x ∈ bg,Wt k [] x)/\(∀ x ∈ fin,Wt k [] x)/\mD k n m/\(∀ a ∈ m,0<=a.l/\a.l<=(2:Nat))/\fB (bT (dG k [])) (zx k []) m=m /\
   Ca E1 1707 [dB vi,.d (.a [vI st,.s 1 (LK .i64 li),.s 1 (LK .i64 lf),.s 1 (LK .i64 la),vB em])] (.d (jh k [] 2 n (bg.map fun x=>(bN k x).d) (fin.map fun x=>(bN k x).d) (m.map (Ar.d (bN k)))),none):=by
 have h:k=2\/k=3:=by rw[hk];cases vi<;>simp
 have hv:=v23 h;obtain⟨hn0,hn4⟩:=NS st;have hm:=NT hv 2 ae (stM st) hn0 la;obtain⟨l,c2,anF,hl⟩:∃ l,Ca E1 1028 [.d (.a [vI st,.s 1 (LK .i64 li),.s 1 (LK .i64 lf),.s 1 (LK .i64 la),vB em]),.d (aU k []),dI 2,dI 4]
   (.d (Jf k [] 2 (stM st) ((p9 k [] li 0 (stM st)).map (bN k)) ((p9 k [] lf (stM st-1) (stM st)).map (bN k)) (bN k) l),none)/\l.length<=10/\∀ a ∈ l,Wt k [] a.x/\(0<=a.f/\a.f<stM st)/\(0<=a.l/\a.l<=(2:Nat))/\(0<=a.t/\a.t<stM st):=by
  cases em with
  | false=>exact⟨_,aba (N7 h) (adH h) st li lf la 2 ae hli hlf hla,Sa ..,fun a ha=>by
    have g:=hm a ha;exact⟨g.wt hv,g.f,by have:=g.l;omega,g.t⟩⟩
  | true=>exact⟨_,aaH (N7 h) (adH h) st li lf la 2 ae hli hlf hla,NW ..,fun a ha=>by
    obtain⟨j,_,rfl⟩:=Qg1.1 ha;have r:∀ x:Int,0<=x % (stM st:Int)/\x % (stM st:Int)<(stM st:Int):=fun x=>⟨Qo2 x ae,Qm1 x ae⟩
    have q:∀ x:Int,0<=x % (2+1:Int)/\x % (2+1:Int)<2+1:=fun x=>⟨Qo2 x ae,Qm1 x ae⟩
    have q1:=q (la.getD (4*j+1) 0);exact⟨abD hv _,r _,⟨q1.1,by show la.getD (4*j+1) 0 % (2+1)<=_;omega⟩,r _⟩⟩
 have l1:=K3 k [] li 0 (stM st);have l2:=K3 k [] lf (stM st-1) (stM st);have w1:∀ x ∈ p9 k [] li 0 (stM st),Wt k [] x:=fun x hx=>by
  obtain⟨i,_,rfl⟩:=Qg1.1 hx;exact Xu hv li i 0
 have w2:∀ x ∈ p9 k [] lf (stM st-1) (stM st),Wt k [] x:=fun x hx=>by
  obtain⟨i,_,rfl⟩:=Qg1.1 hx;exact Xu hv lf i _
 generalize p9 k [] li 0 (stM st)=bg,p9 k [] lf (stM st-1) (stM st)=fin at*;generalize stM st=n at*;have c3:=abd (adI h) 2 n bg fin l aC ae ae ae ae (fun x hx=>(w1 x hx).gf) (fun x hx=>(w2 x hx).gf) (fun a ha=>(hl a ha).1.gf);refine⟨n,bg,fin,_,hn4,hn0,l1,l2,w1,w2,Eo (dS:=zx k []) h ⟨ae,fun a ha=>⟨(hl a ha).1,(hl a ha).2.1,(hl a ha).2.2.2⟩⟩,fun a ha => ?_,NQ _ _,?_⟩
 ·obtain⟨b,hb,e1,e2,e3⟩:=(qU (pl:=bT (dG k [])) (l:=l) a).1 ⟨a,(Q31.1 ha).1,rfl,rfl,rfl⟩;rw[<-e2];exact(hl b hb).2.2.1
 ·rw[IG]at c2 c3;rw[IG]at c3;exact X4 vi em st li lf la k hk n _ _ _ _ _ _ c2 c3
section norm
variable {k:Int} (h:k=2\/k=3) {n:Nat} (hn:n<=4) (n0:0<n) {bg fin:List (List Sv)} (li:bg.length=n) (lf:fin.length=n) (wi:∀ x ∈ bg,Wt k [] x) (wf:∀ x ∈ fin,Wt k [] x) {m:List (Ar (List Sv))} (hm:mD k n m) (hml:∀ a ∈ m,0<=a.l/\a.l<=(2:Nat))
include h hn n0 li lf wi wf hm hml
theorem Ya:Ca E1 1024 [.d (jh k [] 2 n (bg.map fun x=>(bN k x).d) (fin.map fun x=>(bN k x).d) (m.map (Ar.d (bN k))))] (.d (.t [jh k [] 2 n (bg.map fun x=>(bN k x).d) (fin.map fun x=>(bN k x).d) ((fB (bT (dG k [])) (zx k []) m).map (Ar.d (bN k))),vI 0]),none):=by
 have:=aaT (sy:=2) h ae ae li lf wi wf (l:=m) ⟨hm.1,fun a ha=>⟨(hm.2 a ha).1,(hm.2 a ha).2.1,hml a ha,(hm.2 a ha).2.2⟩⟩;rw[IG,IG]at this;exact this
theorem II:Ca E1 1714 [.d (jh k [] 2 n (bg.map fun x=>(bN k x).d) (fin.map fun x=>(bN k x).d) (m.map (Ar.d (bN k))))]
  (.d (.t [.s 8 ((jB (bT (dG k [])) bF (bG k []) n ((fB (bT (dG k [])) (zx k []) m).map Ar.turn) fin (n-1)).map fun x=>(bN k x).d),vI 0]),none) :=
 Fp h (Ya h hn n0 li lf wi wf hm hml) (Qb h hn n0 2 _ wf lf (Eo h hm))
theorem Qc:Ca E1 1715 [.d (jh k [] 2 n (bg.map fun x=>(bN k x).d) (fin.map fun x=>(bN k x).d) (m.map (Ar.d (bN k))))]
  (.d (.t [.s 8 ((jB (bT (dG k [])) bF (bG k []) n (fB (bT (dG k [])) (zx k []) m) bg (n-1)).map fun x=>(bN k x).d),vI 0]),none):=by
 have hN:=Eo (dS:=zx k []) h hm;have c1:=Sc (e:=bN k) k [] 2 n (bg.map fun x=>(bN k x).d) (fin.map fun x=>(bN k x).d) (fB (bT (dG k [])) (zx k []) m) (by have:=hN.1;omega);have c2:=Qb h hn n0 2 (fin.map fun x=>(bN k x).d) wi li hN.turn;rw[Gu]at c2;exact XZ h (Ya h hn n0 li lf wi wf hm hml) c1 c2
end norm
theorem Yb (vi:Bool)(em:Bool)(st:Int)(li lf la:List Int)(hli:∀ x ∈ li,ib x)(hlf:∀ x ∈ lf,ib x)(hla:∀ x ∈ la,ib x)(aw:Ca E1 1706 [] (dB true,none)) :
  Ca E1 1701 [dB vi,.d (.a [vI st,.s 1 (LK .i64 li),.s 1 (LK .i64 lf),.s 1 (LK .i64 la),vB em])] (dB true,none):=by
 obtain⟨k,hk⟩:∃ k:Int,k=if vi then 3 else 2:=⟨_,rfl⟩
 have h:k=2\/k=3:=by rw[hk];cases vi<;>simp
 obtain⟨n,bg,fin,m,hn,n0,l1,l2,w1,w2,hm,hml,hid,cm⟩:=Oe vi em st li lf la hli hlf hla k hk;have c1:=Qc h hn n0 l1 l2 w1 w2 hm hml;have c2:=II h hn n0 l1 l2 w1 w2 hm hml;have c3:=Qc h hn n0 l2 l1 w2 w1 hm.turn fun a ha=>by
  obtain⟨b,hb,rfl⟩:=Qg1.1 ha;exact hml b hb
 rw[hid]at c1 c2;have A:=(X3 h).gm;have p1:∀ x ∈ bg,Ba (dG k []) x:=fun x hx=>(w1 x hx).gd
 have p2:∀ x ∈ fin,Ba (dG k []) x:=fun x hx=>(w2 x hx).gd
 rw[Em A (fun x hx hz=>Xx (v23 h) hx hz) hm.turn.pa hm.turn.ins p2]at c3;have og:=X_ h w1 l1 hm (n-1);have hvl:=tN (pl:=bT (dG k [])) (tm:=bF) (z:=bG k []) (l:=m) l1 (n-1);have hg:=(uM A hm.pa hm.ins p1 l1 (n-1)).1;have og2:=X_ h w2 l2 hm.turn (n-1);have hxl:=tN (pl:=bT (dG k [])) (tm:=bF) (z:=bG k []) (l:=m.map Ar.turn) l2 (n-1);have hclosed:=fun a ha=>NZ (X3 h) hm.pa hm.ins p1 l1 (a:=a) ha
 have ak5:=fun q hq=>Iq (X3 h) hm.pa hm.ins p1 l1 (n-1) 0 q (Qr1 _) hq
 generalize jB (bT (dG k [])) bF (bG k []) n m bg (n-1)=v,jB (bT (dG k [])) bF (bG k []) n (m.map Ar.turn) fin (n-1)=x at*;refine Oc (e:=bN k) aw vi em st li lf la k n ae bg fin v x m (by have:=hm.1;omega) l1 hvl bF (bG k []) (fun a ha=>(hm.2 a ha).2) (fun j a b ha hb => ?_) (fun a ha => ?_) cm c1 c2 c3 ?_
 ·have hj:j<n:=by rw[<-l1];exact(aT ha)
  have k1:=ak5 j hj
  change lq (bT (dG k [])) (bg.getD j (bG k [])) (v.getD j (bG k [])) at k1
  rw[Qj0,Qj0,ha,hb]at k1;have ga:=w1 a (Qa2 ha);have gb:=og b (Qa2 hb);have:=(uP h (j:=n-1) ae ((Og.wt h ga).mono (Qr1 _)) gb).2;rw[P_ h ga.gd gb.gd k1]at this;exact this
 ·have ga:=(Og.wt h (hm.2 a ha).1).mono (Qr1 (n-1));have gf:=zK (z:=bG k []) (Og.zero h (n-1)) og a.f.toNat;have gt:=zK (z:=bG k []) (Og.zero h (n-1)) og a.t.toNat;have gx:=Og.times h gf ga;have k1:=hclosed a ha;have:=(uP h (j:=n-1+1) ae gx (gt.mono ae)).2;rw[P_ h gx.gd gt.gd k1]at this;exact⟨(Lc h ae gf ga).2,this⟩
 ·have ok:∀ w ∈ x.map (bN k),w.OK:=fun w hw=>by
   obtain⟨y,hy,rfl⟩:=Qg1.1 hw;have:=zJ (show n-1<=3 by omega);exact KE (v23 h) (S:=Jh (n-1)) (by have:Jh 3=38:=rfl;omega) (og2 y hy)
  have:=KR (x.map (bN k)) (x.map (bN k)) (by rw[Qj1,hxl];omega) ok ok;rw[NI,Q2]at this;exact this
end Fi.S
