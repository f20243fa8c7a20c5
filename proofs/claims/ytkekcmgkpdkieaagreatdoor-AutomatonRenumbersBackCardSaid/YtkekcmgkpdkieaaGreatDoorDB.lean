import Derived.Test.YtkekcmgkpdkieaaGreatDoorDA
import Derived.Test.YtkekcmgkpdkieaaGreatDoorCX
set_option linter.unusedVariables false
set_option linter.unusedSimpArgs false
noncomputable section
namespace Fi.S
open Go Fi
set_option maxHeartbeats 8000000
set_option maxRecDepth 10000
variable {α:Type} {e:α->W}
def kE (w:W):ae:=.box (w.d.cells.map .d)
def ZK:aG:=f1060.body.r.r.r.l.r.bl.lp
def K7 (B:ae)(s:Int)(l8:List D)(acc:W)(j:Nat)(t:FV):St :=
 (st0 [.u,.d (.v (.int .i64 s)),.d (.s 1 l8),.r (.loc 0) 0,.r (.loc 1) 0,.r (.loc 2) 0,.d (.v (.int .i64 j)),.u,t,.u] [B,bn (.d (.n 8)),kE acc])
theorem adm (kk:Int)(ps:List Int)(sy st:Int)(aM fin:List D)(ak:List (Ar α))(j:Nat)(a:Ar α)(ha:ak[j]?=some a)(hn:ak.length<=1000)(r:List Int)(hr:r.length<=1000)(acc y t' q':W)
  (hy:Ca E1 1060 [.d (qW kk ps sy st aM fin (ak.map (Ar.d e))),.d (.v (.int .i64 a.t)),.d (.s 1 (LK .i64 r))] (.d y.d,none))
  (ht:Ca E1 21 [.d (bA kk ps),.d (e a.x).d,.d y.d] (.d t'.d,none)) (hp:Ca E1 19 [.d (bA kk ps),.d acc.d,.d t'.d] (.d q'.d,none)) :
  Ex E1 ZK (K7 (aD kk ps sy st aM fin (ak.map (Ar.d e))) a.f (LK .i64 (a.l::r)) acc j .u) (.norm,K7 (aD kk ps sy st aM fin (ak.map (Ar.d e))) a.f (LK .i64 (a.l::r)) q' (j+1) .u):=by
 obtain⟨K,hK,t2,t3,t4⟩:=(hy.j (ht.j hp.any)).at 0;have hj:j<ak.length:=(bD ha)
 have he:(ak.map (Ar.d e))[j]?=some (a.d e):=by rw[Qb1,ha];rfl
 have hel:(ak.map (Ar.d e)).length=ak.length:=by simp
 refine Ex.of (n:=K+300) ?_;obtain⟨ys,y1,y2,yc,yb,yu,yp,yq,ey⟩:=y.aN;obtain⟨ts,tl1,tl2,tc,tb,tu,tp,tq,et⟩:=t'.aN;obtain⟨qs',q1,q2,qc,qb,qu,qp,qq,eq⟩:=q'.aN;obtain⟨cs,c1,c2,cc,cb,cu,cp,cq,ec⟩:=acc.aN;obtain⟨sa,a1,a2,ac,ab,au,ap,aq,ew,ea⟩:=a.jD e;unfold K7 kE;simp only[ea,ey,et,eq,ew,ec]at*;have hl:(LK .i64 (a.l::r)).length=r.length+1:=by simp[LK]
 have x0:(LK .i64 (a.l::r))[0]?=some (.v (.int .i64 a.l)):=rfl;have hd:(LK .i64 (a.l::r)).drop 1=LK .i64 r:=rfl;have htk:(LK .i64 r).take r.length=LK .i64 r:=Qg0 (by simp[LK]);clear hy ht hp ey et eq ew ea ec;unfold aD qW bA wD yO at*;generalize LK .i64 (a.l::r)=l8 at*;generalize LK .i64 r=l7,LK .i64 ps=l9,ak.map (Ar.d e)=es,ak.length=n at*;have i0:=idx x0;have i1:=idx he;have hp:(0:Int)<(r.length:Int)+1:=by omega
 have hp1:(1:Int)<=(r.length:Int)+1:=by omega
 have hp2:1<=r.length+1:=by omega
 have hjn:(j:Int)<(n:Int):=by omega
 have hj0:(0:Int)<=(j:Int):=by omega
 have hw:ah .i64 ((j:Int)+1)=(j:Int)+1:=wrap_i64 omK;have hj1:((j+1:Nat):Int)=(j:Int)+1:=by omega
 rw[hj1];unfold bn;simp (maxSteps:=400000) -implicitDefEqProofs[ZK,f1060,t2,t3,t4,kT,Ii,hl,x0,i0,i1,he,hel,hj,hjn,hj0,hw,hp,hp1,hp2,hd,htk]
theorem ZL (kk:Int)(ps:List Int)(sy st:Int)(aM fin:List D)(ak:List (Ar α))(j:Nat)(a:Ar α)(ha:ak[j]?=some a)(hn:ak.length<=1000)(s x:Int)(r:List Int)(acc:W)(h:¬ (a.f=s/\a.l=x)) :
  Ex E1 ZK (K7 (aD kk ps sy st aM fin (ak.map (Ar.d e))) s (LK .i64 (x::r)) acc j .u) (.norm,K7 (aD kk ps sy st aM fin (ak.map (Ar.d e))) s (LK .i64 (x::r)) acc (j+1) .u):=by
 have hj:j<ak.length:=(bD ha)
 have he:(ak.map (Ar.d e))[j]?=some (a.d e):=by rw[Qb1,ha];rfl
 have hel:(ak.map (Ar.d e)).length=ak.length:=by simp
 refine Ex.of (n:=300) ?_;obtain⟨cs,c1,c2,cc,cb,cu,cp,cq,ec⟩:=acc.aN;obtain⟨sa,a1,a2,ac,ab,au,ap,aq,ew,ea⟩:=a.jD e;unfold K7 kE;simp only[ea,ec]at*;have hl:(LK .i64 (x::r)).length=r.length+1:=by simp[LK]
 have x0:(LK .i64 (x::r))[0]?=some (.v (.int .i64 x)):=rfl;clear ew ea ec;unfold aD wD yO at*;generalize LK .i64 (x::r)=l8 at*;generalize LK .i64 ps=l9,ak.map (Ar.d e)=es,ak.length=n at*;have i0:=idx x0;have i1:=idx he;have hp:(0:Int)<(r.length:Int)+1:=by omega
 have hjn:(j:Int)<(n:Int):=by omega
 have hj0:(0:Int)<=(j:Int):=by omega
 have hw:ah .i64 ((j:Int)+1)=(j:Int)+1:=wrap_i64 omK;have hj1:((j+1:Nat):Int)=(j:Int)+1:=by omega
 rw[hj1];unfold bn
 by_cases h1:a.f=s
 ·have h2:(a.l==x)=false:=by
   rw[beq_eq_false_iff_ne];exact fun h2=>h ⟨h1,h2⟩
  simp (maxSteps:=400000) -implicitDefEqProofs[ZK,f1060,hl,x0,i0,i1,he,hel,hj,hjn,hj0,hw,hp,h1,h2]
 ·have h2:(a.f==s)=false:=by rw[beq_eq_false_iff_ne];exact h1
  simp (maxSteps:=400000) -implicitDefEqProofs[ZK,f1060,hl,x0,i0,i1,he,hel,hj,hjn,hj0,hw,hp,h2]
theorem ZM (kk:Int)(ps:List Int)(sy st:Int)(aM fin es:List D)(s:Int)(l8:List D)(acc:W)(j:Nat)(h:es.length=j) :
  Ex E1 ZK (K7 (aD kk ps sy st aM fin es) s l8 acc j .u) (.exit 0,K7 (aD kk ps sy st aM fin es) s l8 acc j (.d (.v (.bool false)))):=by
 refine Ex.of (n:=200) ?_;obtain⟨cs,c1,c2,cc,cb,cu,cp,cq,ec⟩:=acc.aN;unfold K7 kE aD bn;rw[ec];unfold wD;generalize LK .i64 ps=l9 at*;simp (maxSteps:=400000) -implicitDefEqProofs[ZK,f1060,h]
theorem Ho (kk:Int)(ps:List Int)(sy st:Int)(aM fin:List D)(ak:List (Ar α))(hn:ak.length<=1000)(s x:Int)(r:List Int)(hr:r.length<=1000)(pl tm:α->α->α)(z:α)(F:Int->α)
  (hz:Ca E1 35 [.d (bA kk ps)] (.d (e z).d,none))
  (hF:∀ a ∈ ak,Ca E1 1060 [.d (qW kk ps sy st aM fin (ak.map (Ar.d e))),.d (.v (.int .i64 a.t)),.d (.s 1 (LK .i64 r))] (.d (e (F a.t)).d,none))
  (hst:∀ (j:Nat) (a:Ar α),ak[j]?=some a->Ca E1 21 [.d (bA kk ps),.d (e a.x).d,.d (e (F a.t)).d] (.d (e (tm a.x (F a.t))).d,none) /\
   Ca E1 19 [.d (bA kk ps),.d (e ((ak.take j).foldl (fun acc a=>if a.f=s/\a.l=x then pl acc (tm a.x (F a.t)) else acc) z)).d,.d (e (tm a.x (F a.t))).d] (.d (e (pl ((ak.take j).foldl (fun acc a=>if a.f=s/\a.l=x then pl acc (tm a.x (F a.t)) else acc) z) (tm a.x (F a.t)))).d,none)) :
  Ca E1 1060 [.d (qW kk ps sy st aM fin (ak.map (Ar.d e))),.d (.v (.int .i64 s)),.d (.s 1 (LK .i64 (x::r)))] (.d (e (ak.foldl (fun acc a=>if a.f=s/\a.l=x then pl acc (tm a.x (F a.t)) else acc) z)).d,none):=by
 obtain⟨r',hl,hr'⟩:=Ex.fold (E:=E1) (b:=ZK) ak (fun acc a=>if a.f=s/\a.l=x then pl acc (tm a.x (F a.t)) else acc) z (fun j acc st'=>st'=K7 (aD kk ps sy st aM fin (ak.map (Ar.d e))) s (LK .i64 (x::r)) (e acc) j .u)
  (fun acc q=>q=(.exit 0,K7 (aD kk ps sy st aM fin (ak.map (Ar.d e))) s (LK .i64 (x::r)) (e acc) ak.length (.d (.v (.bool false)))))
  (fun j a st' ha hst'=>by
   subst hst';refine⟨_,?_,rfl⟩
   by_cases h:a.f=s/\a.l=x
   ·obtain⟨rfl,rfl⟩:=h;obtain⟨g1,g2⟩:=hst j a ha;rw[if_pos ⟨rfl,rfl⟩];exact adm kk ps sy st aM fin ak j a ha hn r hr _ _ _ _ (hF a (Qa2 ha)) g1 g2
   ·rw[if_neg h];exact ZL kk ps sy st aM fin ak j a ha hn s x r _ h)
  (fun st' hst'=>by
   subst hst';exact⟨_,ZM kk ps sy st aM fin _ s _ _ ak.length (by simp),by simp,rfl⟩)
  (st:=K7 (aD kk ps sy st aM fin (ak.map (Ar.d e))) s (LK .i64 (x::r)) (e z) 0 .u) rfl
 subst hr';generalize ak.foldl (fun acc a=>if a.f=s/\a.l=x then pl acc (tm a.x (F a.t)) else acc) z=q at*;obtain⟨N,t⟩:=hz.get;generalize e q=q',e z=z' at*;clear hF hst hz;have hlen:(LK .i64 (x::r)).length=r.length+1:=by simp[LK]
 have hne:((r.length:Int)+1==0)=false:=by simp;omega
 obtain⟨qs',q1,q2,qc,qb,qu,qp,qq,eq⟩:=q'.aN;obtain⟨zs,z1,z2,zc,zb,zu,zp,zq,ez⟩:=z'.aN;have hA:Ex E1 f1060.body.l (st0 [.d (qW kk ps sy st aM fin (ak.map (Ar.d e))),.d (.v (.int .i64 s)),.d (.s 1 (LK .i64 (x::r))),.u,.u,.u,.u,.u,.u,.u] [])
   (.norm,(st0 [.u,.d (.v (.int .i64 s)),.d (.s 1 (LK .i64 (x::r))),.r (.loc 0) 0,.r (.loc 1) 0,.u,.u,.u,.u,.u] [aD kk ps sy st aM fin (ak.map (Ar.d e)),bn (.d (.n 8))])):=by
  refine Ex.of (n:=60) ?_;unfold qW aD bn;generalize LK .i64 ps=l9 at*;generalize LK .i64 (x::r)=l8 at*;simp -implicitDefEqProofs[f1060]
 have hB:Ex E1 f1060.body.r.l (st0 [.u,.d (.v (.int .i64 s)),.d (.s 1 (LK .i64 (x::r))),.r (.loc 0) 0,.r (.loc 1) 0,.u,.u,.u,.u,.u] [aD kk ps sy st aM fin (ak.map (Ar.d e)),bn (.d (.n 8))])
   (.norm,(st0 [.u,.d (.v (.int .i64 s)),.d (.s 1 (LK .i64 (x::r))),.r (.loc 0) 0,.r (.loc 1) 0,.u,.u,.d (.v (.bool false)),.u,.u] [aD kk ps sy st aM fin (ak.map (Ar.d e)),bn (.d (.n 8))])):=by
  refine Ex.of (n:=60) ?_;unfold aD bn;generalize LK .i64 ps=l9 at*;generalize LK .i64 (x::r)=l8 at*;simp -implicitDefEqProofs[f1060,hlen,hne]
 have hC:Ex E1 f1060.body.r.r.l (st0 [.u,.d (.v (.int .i64 s)),.d (.s 1 (LK .i64 (x::r))),.r (.loc 0) 0,.r (.loc 1) 0,.u,.u,.d (.v (.bool false)),.u,.u] [aD kk ps sy st aM fin (ak.map (Ar.d e)),bn (.d (.n 8))])
   (.norm,(st0 [.u,.d (.v (.int .i64 s)),.d (.s 1 (LK .i64 (x::r))),.r (.loc 0) 0,.r (.loc 1) 0,.r (.loc 2) 0,.u,.u,.u,.u] [aD kk ps sy st aM fin (ak.map (Ar.d e)),bn (.d (.n 8)),kE z'])):=by
  refine Ex.of (n:=N+60) ?_;unfold aD bn kE;rw[ez]at t ⊢;unfold bA wD at*;generalize LK .i64 ps=l9 at*;generalize LK .i64 (x::r)=l8 at*;simp -implicitDefEqProofs[f1060,t]
 have hD:Ex E1 f1060.body.r.r.r.l.l (st0 [.u,.d (.v (.int .i64 s)),.d (.s 1 (LK .i64 (x::r))),.r (.loc 0) 0,.r (.loc 1) 0,.r (.loc 2) 0,.u,.u,.u,.u] [aD kk ps sy st aM fin (ak.map (Ar.d e)),bn (.d (.n 8)),kE z'])
   (.norm,K7 (aD kk ps sy st aM fin (ak.map (Ar.d e))) s (LK .i64 (x::r)) z' 0 .u):=by
  refine Ex.of (n:=60) ?_;unfold K7 aD bn kE;rw[ez];unfold wD;generalize LK .i64 ps=l9 at*;generalize LK .i64 (x::r)=l8 at*;simp -implicitDefEqProofs[f1060]
 have hE:Ex E1 f1060.body.r.r.r.r (K7 (aD kk ps sy st aM fin (ak.map (Ar.d e))) s (LK .i64 (x::r)) q' ak.length (.d (.v (.bool false))))
   (.ret,(st0 [.u,.u,.u,.u,.r (.loc 1) 0,.u,.u,.u,.u,.u] [aD kk ps sy st aM fin (ak.map (Ar.d e)),kE q',kE q'])):=by
  refine Ex.of (n:=60) ?_;unfold K7 aD bn kE;rw[eq];unfold wD;generalize LK .i64 ps=l9 at*;generalize LK .i64 (x::r)=l8 at*;simp -implicitDefEqProofs[f1060]
 refine Ca.body (o:=.ret) (st1:=(st0 [.u,.u,.u,.u,.r (.loc 1) 0,.u,.u,.u,.u,.u] [aD kk ps sy st aM fin (ak.map (Ar.d e)),kE q',kE q'])) rfl (k1060:E1.fn _=_) rfl ?_ (by intro id h;cases h) ?_
 ·show Ex E1 (.seq f1060.body.l (.seq f1060.body.r.l (.seq f1060.body.r.r.l (.seq (.seq f1060.body.r.r.r.l.l (.block 0 (.loop ZK))) f1060.body.r.r.r.r)))) _ _;exact hA.seq (hB.seq (hC.seq ((hD.seq hl.block).seq hE)))
 ·unfold kE aD;rw[eq];unfold wD;generalize LK .i64 ps=l9 at*;simp -implicitDefEqProofs[f1060]
end Fi.S
noncomputable section
namespace Fi.S
open Go Fi
set_option maxHeartbeats 8000000
set_option maxRecDepth 10000
section agc
variable {α:Type} {e:α->W}
def wgL:aG:=f1022.body.r.r.l.r.bl.lp
def Q0 (B:ae)(l8:List D)(acc:W)(j:Nat)(t:FV):St :=
 (st0 [.u,.d (.s 1 l8),.r (.loc 0) 0,.r (.loc 1) 0,.r (.loc 2) 0,.d (.v (.int .i64 j)),t] [B,bn (.d (.n 8)),kE acc])
theorem V9 (kk:Int)(ps:List Int)(sy:Int)(n:Nat)(aM fin es l8:List D)(j:Nat)(hj:j<n)(hn:n<=1000)(i0 acc y t' q':W)(hi:aM[j]?=some i0.d)
  (hy:Ca E1 1060 [.d (qW kk ps sy n aM fin es),.d (.v (.int .i64 j)),.d (.s 1 l8)] (.d y.d,none))
  (ht:Ca E1 21 [.d (bA kk ps),.d i0.d,.d y.d] (.d t'.d,none)) (hp:Ca E1 19 [.d (bA kk ps),.d acc.d,.d t'.d] (.d q'.d,none)) :
  Ex E1 wgL (Q0 (aD kk ps sy n aM fin es) l8 acc j .u) (.norm,Q0 (aD kk ps sy n aM fin es) l8 q' (j+1) .u):=by
 obtain⟨K,hK,t2,t3,t4⟩:=(hy.j (ht.j hp.any)).at 0;have hil:j<aM.length:=(bD hi)
 refine Ex.of (n:=K+300) ?_;obtain⟨ys,y1,y2,yc,yb,yu,yp,yq,ey⟩:=y.aN;obtain⟨ts,tl1,tl2,tc,tb,tu,tp,tq,et⟩:=t'.aN;obtain⟨qs',q1,q2,qc,qb,qu,qp,qq,eq⟩:=q'.aN;obtain⟨cs,c1,c2,cc,cb,cu,cp,cq,ec⟩:=acc.aN;obtain⟨is,a1,a2,ic,ib,iu,ip,iq,ei⟩:=i0.aN;unfold Q0 kE;simp only[ei,ey,et,eq,ec]at*;clear hy ht hp ey et eq ei ec;unfold aD qW bA wD at*;generalize LK .i64 ps=l9 at*;have i1:=idx hi;have hjn:(j:Int)<(n:Int):=by omega
 have hj0:(0:Int)<=(j:Int):=by omega
 have hw:ah .i64 ((j:Int)+1)=(j:Int)+1:=wrap_i64 omK;have hj1:((j+1:Nat):Int)=(j:Int)+1:=by omega
 rw[hj1];unfold bn;simp (maxSteps:=400000) -implicitDefEqProofs[wgL,f1022,t2,t3,t4,i1,hi,hil,hjn,hj0,hw]
theorem ZN (kk:Int)(ps:List Int)(sy:Int)(n:Nat)(aM fin es l8:List D)(acc:W) :
  Ex E1 wgL (Q0 (aD kk ps sy n aM fin es) l8 acc n .u) (.exit 0,Q0 (aD kk ps sy n aM fin es) l8 acc n (.d (.v (.bool false)))):=by
 refine Ex.of (n:=200) ?_;obtain⟨cs,c1,c2,cc,cb,cu,cp,cq,ec⟩:=acc.aN;unfold Q0 kE aD bn;rw[ec];unfold wD;generalize LK .i64 ps=l9 at*;simp (maxSteps:=400000) -implicitDefEqProofs[wgL,f1022]
theorem V_ (kk:Int)(ps:List Int)(sy:Int)(aM:List α)(fin es l8:List D)(hn:aM.length<=1000)(pl tm:α->α->α)(z:α)(F:Int->α)
  (hz:Ca E1 35 [.d (bA kk ps)] (.d (e z).d,none))
  (hF:∀ j:Nat,j<aM.length->Ca E1 1060 [.d (qW kk ps sy aM.length (aM.map fun x=>(e x).d) fin es),.d (.v (.int .i64 j)),.d (.s 1 l8)] (.d (e (F j)).d,none))
  (hst:∀ j:Nat,j<aM.length->Ca E1 21 [.d (bA kk ps),.d (e (aM.getD j z)).d,.d (e (F j)).d] (.d (e (tm (aM.getD j z) (F j))).d,none) /\
   Ca E1 19 [.d (bA kk ps),.d (e ((List.range j).foldl (fun acc i=>pl acc (tm (aM.getD i z) (F i))) z)).d,.d (e (tm (aM.getD j z) (F j))).d] (.d (e (pl ((List.range j).foldl (fun acc i=>pl acc (tm (aM.getD i z) (F i))) z) (tm (aM.getD j z) (F j)))).d,none)) :
  Ca E1 1022 [.d (qW kk ps sy aM.length (aM.map fun x=>(e x).d) fin es),.d (.s 1 l8)] (.d (e ((List.range aM.length).foldl (fun acc i=>pl acc (tm (aM.getD i z) (F i))) z)).d,none):=by
 obtain⟨r',hl,hr'⟩:=Ex.fold (E:=E1) (b:=wgL) (List.range aM.length) (fun acc i=>pl acc (tm (aM.getD i z) (F i))) z (fun j acc st'=>st'=Q0 (aD kk ps sy aM.length (aM.map fun x=>(e x).d) fin es) l8 (e acc) j .u)
  (fun acc q=>q=(.exit 0,Q0 (aD kk ps sy aM.length (aM.map fun x=>(e x).d) fin es) l8 (e acc) aM.length (.d (.v (.bool false)))))
  (fun j a st' ha hst'=>by
   have hj:j<aM.length:=by simpa using(bD ha)
   rw[Xh0 hj]at ha;cases ha;subst hst';refine⟨_,?_,rfl⟩;obtain⟨g1,g2⟩:=hst j hj;have htk:(List.range aM.length).take j=List.range j:=by rw[List.take_range,Xm2 omK]
   rw[htk];refine V9 kk ps sy aM.length _ fin es l8 j hj hn _ _ _ _ _ ?_ (hF j hj) g1 g2;rw[Qb1,Qh1,Qa0 hj];rfl)
  (fun st' hst'=>by
   subst hst';simp only[Xp2];exact⟨_,ZN kk ps sy _ _ fin es l8 _,by simp,rfl⟩)
  (st:=Q0 (aD kk ps sy aM.length (aM.map fun x=>(e x).d) fin es) l8 (e z) 0 .u) rfl
 subst hr';generalize (List.range aM.length).foldl (fun acc i=>pl acc (tm (aM.getD i z) (F i))) z=q at*;obtain⟨N,t⟩:=hz.get;generalize e q=q',e z=z' at*;clear hF hst hz;generalize aM.map (fun x=>(e x).d)=is at*;generalize aM.length=n at*;obtain⟨qs',q1,q2,qc,qb,qu,qp,qq,eq⟩:=q'.aN;obtain⟨zs,z1,z2,zc,zb,zu,zp,zq,ez⟩:=z'.aN;have hA:Ex E1 f1022.body.l (st0 [.d (qW kk ps sy n is fin es),.d (.s 1 l8),.u,.u,.u,.u,.u] [])
   (.norm,(st0 [.u,.d (.s 1 l8),.r (.loc 0) 0,.r (.loc 1) 0,.u,.u,.u] [aD kk ps sy n is fin es,bn (.d (.n 8))])):=by
  refine Ex.of (n:=60) ?_;unfold qW aD bn;generalize LK .i64 ps=l9 at*;simp -implicitDefEqProofs[f1022]
 have hC:Ex E1 f1022.body.r.l (st0 [.u,.d (.s 1 l8),.r (.loc 0) 0,.r (.loc 1) 0,.u,.u,.u] [aD kk ps sy n is fin es,bn (.d (.n 8))])
   (.norm,(st0 [.u,.d (.s 1 l8),.r (.loc 0) 0,.r (.loc 1) 0,.r (.loc 2) 0,.u,.u] [aD kk ps sy n is fin es,bn (.d (.n 8)),kE z'])):=by
  refine Ex.of (n:=N+60) ?_;unfold aD bn kE;rw[ez]at t ⊢;unfold bA wD at*;generalize LK .i64 ps=l9 at*;simp -implicitDefEqProofs[f1022,t]
 have hD:Ex E1 f1022.body.r.r.l.l (st0 [.u,.d (.s 1 l8),.r (.loc 0) 0,.r (.loc 1) 0,.r (.loc 2) 0,.u,.u] [aD kk ps sy n is fin es,bn (.d (.n 8)),kE z'])
   (.norm,Q0 (aD kk ps sy n is fin es) l8 z' 0 .u):=by
  refine Ex.of (n:=60) ?_;unfold Q0 aD bn kE;rw[ez];unfold wD;generalize LK .i64 ps=l9 at*;simp -implicitDefEqProofs[f1022]
 have hE:Ex E1 f1022.body.r.r.r (Q0 (aD kk ps sy n is fin es) l8 q' n (.d (.v (.bool false))))
   (.ret,(st0 [.u,.u,.u,.r (.loc 1) 0,.u,.u,.u] [aD kk ps sy n is fin es,kE q',kE q'])):=by
  refine Ex.of (n:=60) ?_;unfold Q0 aD bn kE;rw[eq];unfold wD;generalize LK .i64 ps=l9 at*;simp -implicitDefEqProofs[f1022]
 refine Ca.body (o:=.ret) (st1:=(st0 [.u,.u,.u,.r (.loc 1) 0,.u,.u,.u] [aD kk ps sy n is fin es,kE q',kE q'])) rfl (k1022:E1.fn _=_) rfl ?_ (by intro id h;cases h) ?_
 ·show Ex E1 (.seq f1022.body.l (.seq f1022.body.r.l (.seq (.seq f1022.body.r.r.l.l (.block 0 (.loop wgL))) f1022.body.r.r.r))) _ _;exact hA.seq (hC.seq ((hD.seq hl.block).seq hE))
 ·unfold kE aD;rw[eq];unfold wD;generalize LK .i64 ps=l9 at*;simp -implicitDefEqProofs[f1022]
end agc
def bN:Nat->Nat
 | 0=>640
 | j+1=>10*(20*(640*bN j))
theorem Wd {j:Nat}(h:j<=4):bN j<=bN 4:=by
 match j,h with
 | 0,_=>decide
 | 1,_=>decide
 | 2,_=>decide
 | 3,_=>decide
 | 4,_=>exact Qd1 _
theorem O0 {j:Nat}(h:j<=6):6 ^ j<=46656:=Qc2 (Qt2 omK h) (by decide)
section vals
variable {kk:Int} {ps:List Int}
def Wt (kk:Int)(ps:List Int)(x:List Sv):Prop:=gU 3 20 (dz kk ps) x/\uG 6 640 x
theorem Wt.gd {x:List Sv}(h:Wt kk ps x):vM (dz kk ps) x:=⟨3,20,by omega,by omega,h.1⟩
theorem sw (hv:aJ kk ps=true){β:Type}{D T:Nat}(c:β->Prop)[DecidablePred c](h:β->List Sv):∀ (l:List β) (n:Nat) (acc:List Sv),(∀ a ∈ l,vM (dz kk ps) (h a)/\uG D T (h a))->vM (dz kk ps) acc->uG D (n*T) acc ->
  vM (dz kk ps) (l.foldl (fun acc a=>if c a then bL (dz kk ps) acc (h a) else acc) acc)/\uG D ((n+l.length)*T) (l.foldl (fun acc a=>if c a then bL (dz kk ps) acc (h a) else acc) acc)
 | [],n,acc,_,hg,hf=>⟨hg,hf⟩
 | a::l,n,acc,ha,hg,hf=>by
  have A:=Ka (aQ hv);obtain⟨h1,h2⟩:=ha a (by simp);have ha':∀ a ∈ l,vM (dz kk ps) (h a)/\uG D T (h a):=fun b hb=>ha b (by simp[hb])
  have e1:n+(a::l).length=(n+1)+l.length:=by simp;omega
  rw[Qm0,e1]
  by_cases hc:c a
  ·rw[if_pos hc];refine sw hv c h l (n+1) _ ha' (A.pp hg h1) ?_;have:=Dw (aQ hv) hg h1 hf h2;rw[Qq1,Nat.one_mul];exact this
  ·rw[if_neg hc];exact sw hv c h l (n+1) _ ha' hg (hf.mono (Qe1 _ omK))
theorem FD (hv:aJ kk ps=true){D N:Nat}(hD:0<D)(hD2:D<4294967296 ^ 3)(hN:N<4294967296 ^ 3){x y:List Sv}(hx:Wt kk ps x)(hy:vM (dz kk ps) y)(fy:uG D N y) :
  Ca E1 21 [.d (bA kk ps),.d (bS kk x).d,.d (bS kk y).d] (.d (bS kk (bu x y)).d,none) :=
 QY hv (S:=3) (M:=20) (N:=216) omK omK omK hx.1 (xH (aQ hv) hy fy hD hD2 hN)
theorem Kc (hv:aJ kk ps=true){D N M:Nat}(hD:0<D)(hD2:D<4294967296 ^ 3)(hN:N<4294967296 ^ 3)(hM:M<4294967296 ^ 3){x y:List Sv}(hx:vM (dz kk ps) x)(fx:uG D N x)(hy:vM (dz kk ps) y)(fy:uG D M y) :
  Ca E1 19 [.d (bA kk ps),.d (bS kk x).d,.d (bS kk y).d] (.d (bS kk (bL (dz kk ps) x y)).d,none) :=
 JO hv (S:=3) (M:=216) omK omK (xH (aQ hv) hx fx hD hD2 hN) (xH (aQ hv) hy fy hD hD2 hM)
theorem Dz (hv:aJ kk ps=true){fin:List (List Sv)}{ak:List (Ar (List Sv))}(hf:∀ x ∈ fin,Wt kk ps x)(ha:∀ a ∈ ak,Wt kk ps a.x)(hn:ak.length<=10):∀ (w:List Int) (s:Int),
  vM (dz kk ps) (dM (bL (dz kk ps)) bu (aW kk ps) fin ak w s)/\uG (6 ^ (w.length+1)) (bN w.length) (dM (bL (dz kk ps)) bu (aW kk ps) fin ak w s)
 | [],s=>by
  have A:=Ka (aQ hv);show vM _ (fin.getD s.toNat (aW kk ps))/\uG 6 640 (fin.getD s.toNat (aW kk ps));rw[Qh1];cases h:fin[s.toNat]? with
  | none=>exact⟨A.pz,oD (aQ hv) _ _⟩
  | some x=>exact⟨(hf x (Qa2 h)).gd,(hf x (Qa2 h)).2⟩
 | x::r,s=>by
  have A:=Ka (aQ hv);have ih:=Dz hv hf ha hn r;have hz:uG (6 ^ (r.length+1+1)) (0*(20*(640*bN r.length))) (aW kk ps):=oD (aQ hv) _ _;obtain⟨h1,h2⟩:=sw hv (D:=6 ^ (r.length+1+1)) (T:=20*(640*bN r.length)) (fun a:Ar (List Sv)=>a.f=s/\a.l=x) (fun a=>bu a.x (dM (bL (dz kk ps)) bu (aW kk ps) fin ak r a.t)) ak 0 (aW kk ps) (fun a hm=>by
   obtain⟨g1,g2⟩:=ih a.t;refine⟨A.pt (ha a hm).gd g1,?_⟩;have:=y5 (aQ hv) (M:=20) omK (ha a hm).1 g1 (ha a hm).2 g2;rw[Ql1 6 (r.length+1),Qj2];exact this) A.pz hz
  refine⟨h1,h2.mono ?_⟩;show(0+ak.length)*_<=10*_;exact Qe1 _ omK
theorem O1 (hv:aJ kk ps=true)(sy st:Int)(aM:List D){fin:List (List Sv)}{ak:List (Ar (List Sv))}(hf:∀ x ∈ fin,Wt kk ps x)(ha:∀ a ∈ ak,Wt kk ps a.x)(hn:ak.length<=10)(hr:∀ a ∈ ak,0<=a.t/\a.t<fin.length):∀ (w:List Int),w.length<=4->∀ s:Int,0<=s->s<fin.length ->
  Ca E1 1060 [.d (qW kk ps sy st aM (fin.map fun x=>(bS kk x).d) (ak.map (Ar.d (bS kk)))),.d (.v (.int .i64 s)),.d (.s 1 (LK .i64 w))] (.d (bS kk (dM (bL (dz kk ps)) bu (aW kk ps) fin ak w s)).d,none)
 | [],_,s,h0,h1=>by
  have hs:s.toNat<fin.length:=by omega
  have:=VZ kk ps sy st aM (fin.map fun x=>(bS kk x).d) (ak.map (Ar.d (bS kk))) s.toNat (bS kk (dM (bL (dz kk ps)) bu (aW kk ps) fin ak [] s)) (by
   show _=some (bS kk (fin.getD s.toNat (aW kk ps))).d;rw[Qb1,Qh1,Qa0 hs];rfl)
  rw[show((s.toNat:Nat):Int)=s by omega]at this;exact this
 | x::r,hw,s,h0,h1=>by
  simp only[Qe2]at hw;have A:=Ka (aQ hv);have ih:=O1 hv sy st aM hf ha hn hr r omK;have hval:=Dz hv hf ha hn r;have hb:=Wd (show r.length<=4 by omega);have hb2:=Wd (show r.length+1<=4 by omega);have hd:=O0 (show r.length+1<=6 by omega);have hd2:=O0 (show r.length+1+1<=6 by omega);have hB:bN 4<4294967296 ^ 3:=by decide
  have hp1:0<6 ^ (r.length+1):=Qq2 omK;have hp2:0<6 ^ (r.length+1+1):=Qq2 omK;have hT:10*(20*(640*bN r.length))<=bN 4:=hb2;have DF:∀ a ∈ ak,vM (dz kk ps) (bu a.x (dM (bL (dz kk ps)) bu (aW kk ps) fin ak r a.t))/\uG (6 ^ (r.length+1+1)) (20*(640*bN r.length)) (bu a.x (dM (bL (dz kk ps)) bu (aW kk ps) fin ak r a.t)):=fun a hm=>by
   obtain⟨g1,g2⟩:=hval a.t;refine⟨A.pt (ha a hm).gd g1,?_⟩;have:=y5 (aQ hv) (M:=20) omK (ha a hm).1 g1 (ha a hm).2 g2;rw[Ql1 6 (r.length+1),Qj2];exact this
  refine Ho kk ps sy st aM _ ak omK s x r omK (bL (dz kk ps)) bu (aW kk ps) (dM (bL (dz kk ps)) bu (aW kk ps) fin ak r) (AX hv) (fun a hm=>ih a.t (hr a hm).1 (hr a hm).2) (fun j a hj => ?_);have hm:=Qa2 hj;obtain⟨g1,g2⟩:=hval a.t;refine⟨FD hv hp1 omK omK (ha a hm) g1 g2,?_⟩;have hz:uG (6 ^ (r.length+1+1)) (0*(20*(640*bN r.length))) (aW kk ps):=oD (aQ hv) _ _;obtain⟨k1,k2⟩:=sw hv (D:=6 ^ (r.length+1+1)) (T:=20*(640*bN r.length)) (fun a:Ar (List Sv)=>a.f=s/\a.l=x) (fun a=>bu a.x (dM (bL (dz kk ps)) bu (aW kk ps) fin ak r a.t)) (ak.take j) 0 (aW kk ps) (fun b hb=>DF b (Qp0 hb)) A.pz hz;have hjl:(ak.take j).length<=10:=by rw[Qr1];omega
  have hk:(0+(ak.take j).length)*(20*(640*bN r.length))<=10*(20*(640*bN r.length)):=Qe1 _ omK;exact Kc hv hp2 omK omK omK k1 k2 (DF a hm).1 (DF a hm).2
theorem FE (hv:aJ kk ps=true)(sy:Int){aM fin:List (List Sv)}{ak:List (Ar (List Sv))}(hi:∀ x ∈ aM,Wt kk ps x)(hf:∀ x ∈ fin,Wt kk ps x)(ha:∀ a ∈ ak,Wt kk ps a.x)(hn:ak.length<=10)(hl:aM.length=fin.length)(h4:fin.length<=4)
  (hr:∀ a ∈ ak,0<=a.t/\a.t<fin.length) (w:List Int) (hw:w.length<=4) :
  Ca E1 1022 [.d (uP kk ps sy aM.length (aM.map (bS kk)) (fin.map (bS kk)) (bS kk) ak),.d (.s 1 (LK .i64 w))] (.d (bS kk (su (bL (dz kk ps)) bu (aW kk ps) aM fin ak w)).d,none) /\
   gU 3 216 (dz kk ps) (su (bL (dz kk ps)) bu (aW kk ps) aM fin ak w):=by
 have A:=Ka (aQ hv);have hval:=Dz hv hf ha hn w;have hb:=Wd hw;have hd:=O0 (show w.length+1<=6 by omega);have hd2:=O0 (show w.length+1+1<=6 by omega);have hB:4*(20*(640*bN 4))<4294967296 ^ 3:=by decide
 have hp1:0<6 ^ (w.length+1):=Qq2 omK;have hp2:0<6 ^ (w.length+1+1):=Qq2 omK;have hg:∀ j:Nat,Wt kk ps (aM.getD j (aW kk ps)):=fun j=>by
  rw[Qh1];cases h:aM[j]? with
  | none=>exact⟨kr omK (aQ hv),oD (aQ hv) _ _⟩
  | some x=>exact hi x (Qa2 h)
 have DF:∀ j:Nat,vM (dz kk ps) (bu (aM.getD j (aW kk ps)) (dM (bL (dz kk ps)) bu (aW kk ps) fin ak w j))/\uG (6 ^ (w.length+1+1)) (20*(640*bN w.length)) (bu (aM.getD j (aW kk ps)) (dM (bL (dz kk ps)) bu (aW kk ps) fin ak w j)):=fun j=>by
  obtain⟨g1,g2⟩:=hval j;refine⟨A.pt (hg j).gd g1,?_⟩;have:=y5 (aQ hv) (M:=20) omK (hg j).1 g1 (hg j).2 g2;rw[Ql1 6 (w.length+1),Qj2];exact this
 have hz:uG (6 ^ (w.length+1+1)) (0*(20*(640*bN w.length))) (aW kk ps):=oD (aQ hv) _ _;have hacc:∀ j:Nat,j<=4->vM (dz kk ps) ((List.range j).foldl (fun acc i=>bL (dz kk ps) acc (bu (aM.getD i (aW kk ps)) (dM (bL (dz kk ps)) bu (aW kk ps) fin ak w i))) (aW kk ps)) /\
   uG (6 ^ (w.length+1+1)) (4*(20*(640*bN w.length))) ((List.range j).foldl (fun acc i=>bL (dz kk ps) acc (bu (aM.getD i (aW kk ps)) (dM (bL (dz kk ps)) bu (aW kk ps) fin ak w i))) (aW kk ps)):=fun j hj=>by
  have:=sw hv (D:=6 ^ (w.length+1+1)) (T:=20*(640*bN w.length)) (fun _:Nat=>True) (fun i=>bu (aM.getD i (aW kk ps)) (dM (bL (dz kk ps)) bu (aW kk ps) fin ak w i)) (List.range j) 0 (aW kk ps) (fun b _=>DF b) A.pz hz;simp only[if_true,Xp2]at this;exact⟨this.1,this.2.mono (Qe1 _ omK)⟩
 refine⟨?_,xH (aQ hv) (hacc aM.length omK).1 (hacc aM.length omK).2 hp2 omK omK⟩;have:=V_ (e:=bS kk) kk ps sy aM (fin.map fun x=>(bS kk x).d) (ak.map (Ar.d (bS kk))) (LK .i64 w) omK (bL (dz kk ps)) bu (aW kk ps) (dM (bL (dz kk ps)) bu (aW kk ps) fin ak w) (AX hv)
  (fun j hj=>O1 hv sy _ _ hf ha hn hr w hw j omK omK)
  (fun j hj=>⟨FD hv hp1 omK omK (hg j) (hval j).1 (hval j).2,Kc hv hp2 omK omK omK (hacc j omK).1 (hacc j omK).2 (DF j).1 (DF j).2⟩)
 have e1:(aM.map (bS kk)).map W.d=aM.map fun x=>(bS kk x).d:=by rw[Q42];rfl
 have e2:(fin.map (bS kk)).map W.d=fin.map fun x=>(bS kk x).d:=by rw[Q42];rfl
 unfold uP;rw[e1,e2];exact this
end vals
end Fi.S
noncomputable section
namespace Fi.S
open Go Fi
set_option maxHeartbeats 8000000
set_option maxRecDepth 10000
def qM (sy:Int)(l:List Int):List Int:=(l.take 4).map fun x=>1+x % sy
theorem FH (sy:Int)(l:List Int):(qM sy l).length<=4:=by
 unfold qM;rw[Qk2,Qr1];omega
theorem We (sy:Int)(hsy:2<=sy/\sy<=3)(l:List Int)(hl:∀ x ∈ l,d_ x):Ca E1 1018 [.d (.s 1 (LK .i64 l)),.d (.v (.int .i64 sy)),.d (.v (.int .i64 4))] (.d (.s 1 (LK .i64 (qM sy l))),none):=by
 have md:∀ x ∈ l,Ca E1 46 [.d (.v (.int .i64 x)),.d (.v (.int .i64 sy))] (.d (.v (.int .i64 (x % sy))),none):=fun x hx=>Ca.fP (iW x sy (hl x hx) omK omK)
 have wa:∀ x:Int,ah .i64 (1+x % sy)=1+x % sy:=fun x=>wrap_i64 (by
  have h1:=Qn0 x (show sy≠0 by omega);have h2:=Ql0 x (show 0<sy by omega);omega)
 have wr4:ah .i64 4=4:=wrap_i64 omK
 match l,md with
 | [],_ =>
  refine Ca.bO (n:=200) ?_;rw[av rfl (k1018:E1.fn _=_) rfl];simp -implicitDefEqProofs[aC,f1018,qM,LK]
 | [a],md =>
  obtain⟨N,t⟩:=(md a (by simp)).any;replace t:=t N (Qd1 _);refine Ca.bO (n:=N+200) ?_;rw[av rfl (k1018:E1.fn _=_) rfl];simp -implicitDefEqProofs[aC,f1018,qM,LK,t,wa,MQ,most,ae.view]
 | [a,b],md =>
  obtain⟨K,hK,t1,t2⟩:=((md a (by simp)).j ((md b (by simp)).any)).at 0;refine Ca.bO (n:=K+200) ?_;rw[av rfl (k1018:E1.fn _=_) rfl];simp -implicitDefEqProofs[aC,f1018,qM,LK,t1,t2,wa,MQ,wr2,most,ae.view]
 | [a,b,c],md =>
  obtain⟨K,hK,t1,t2,t3⟩:=((md a (by simp)).j ((md b (by simp)).j ((md c (by simp)).any))).at 0;refine Ca.bO (n:=K+200) ?_;rw[av rfl (k1018:E1.fn _=_) rfl];simp -implicitDefEqProofs[aC,f1018,qM,LK,t1,t2,t3,wa,MQ,wr2,wr3,most,ae.view]
 | a::b::c::d::r,md =>
  obtain⟨K,hK,t1,t2,t3,t4⟩:=((md a (by simp)).j ((md b (by simp)).j ((md c (by simp)).j ((md d (by simp)).any)))).at 0;refine Ca.bO (n:=K+200) ?_;rw[av rfl (k1018:E1.fn _=_) rfl];have e:LK .i64 (qM sy (a::b::c::d::r))=[.v (.int .i64 (1+a % sy)),.v (.int .i64 (1+b % sy)),.v (.int .i64 (1+c % sy)),.v (.int .i64 (1+d % sy))]:=by simp[LK,qM]
  rw[e];have x0:(LK .i64 (a::b::c::d::r))[0]?=some (.v (.int .i64 a)):=rfl;have x1:(LK .i64 (a::b::c::d::r))[1]?=some (.v (.int .i64 b)):=rfl;have x2:(LK .i64 (a::b::c::d::r))[2]?=some (.v (.int .i64 c)):=rfl;have x3:(LK .i64 (a::b::c::d::r))[3]?=some (.v (.int .i64 d)):=rfl;have hlen:(LK .i64 (a::b::c::d::r)).length=(a::b::c::d::r).length:=by simp[LK]
  have h3:4<=(a::b::c::d::r).length:=by simp
  generalize (a::b::c::d::r).length=n at*;generalize LK .i64 (a::b::c::d::r)=xs at*;have i0:=idx x0;have i1:=idx x1;have i2:=idx x2;have i3:=idx x3;have n0:0<n:=by omega
  have n1:1<n:=by omega
  have n2:2<n:=by omega
  have n3:3<n:=by omega
  have m0:(0:Int)<n:=by omega
  have m1:(1:Int)<n:=by omega
  have m2:(2:Int)<n:=by omega
  have m3:(3:Int)<n:=by omega
  by_cases h:(4:Int)<n
  ·simp (maxSteps:=400000) -implicitDefEqProofs[aC,f1018,t1,t2,t3,t4,wa,MQ,wr2,wr3,wr4,most,ae.view,x0,x1,x2,x3,i0,i1,i2,i3,hlen,n0,n1,n2,n3,m0,m1,m2,m3,h]
  ·simp (maxSteps:=400000) -implicitDefEqProofs[aC,f1018,t1,t2,t3,t4,wa,MQ,wr2,wr3,wr4,most,ae.view,x0,x1,x2,x3,i0,i1,i2,i3,hlen,n0,n1,n2,n3,m0,m1,m2,m3,h]
theorem Q3 {kk:Int}{ps:List Int}(hv:aJ kk ps=true)(v:Int):gU 3 20 (dz kk ps) (rR kk ps v):=by
 have h:=Fv hv v;have hf:=Dy hv v;refine⟨h.1,fun i k x hk hx => ?_⟩;have g1:=h.2 i k x hk hx;have g2:=Nb (T:=3) (aQ hv k (Qa2 hk)) g1 (hf x (Qa2 hx)) omK omK omK;cases x with
 | q a=>exact⟨g2.1,g2.2⟩
 | c i n=>exact g2
 | s u=>exact g2
 | p l=>exact⟨g2.1,g2.2.1,Qc2 g1.2.2 omK⟩
def y7 (kk:Int)(ps:List Int)(l:List Int)(i one:Nat):List Sv :=
 match l[i]? with
 | some v=>rR kk ps v
 | none=>if i=one then Fw kk ps else aW kk ps
theorem Wh {kk:Int}{ps:List Int}(hv:aJ kk ps=true)(l:List Int)(hl:∀ x ∈ l,d_ x)(i one:Nat):Ca E1 1075 [.d (bA kk ps),.d (.s 1 (LK .i64 l)),.d (.v (.int .i64 i)),.d (.v (.int .i64 one))] (.d (bS kk (y7 kk ps l i one)).d,none):=by
 have n1:(LK .i64 l).length=l.length:=by simp[LK]
 have i0:(0:Int)<=(i:Int):=by omega
 unfold y7;cases h:l[i]? with
 | some v =>
  have hi:=(bD h)
  have e1:(LK .i64 l)[i]?=some (.v (.int .i64 v)):=by simp[LK,h]
  have hic:(i:Int)<(l.length:Int):=by omega
  obtain⟨N,t⟩:=(JM hv v (hl v (Qa2 h))).get;show Ca E1 1075 _ (.d (bS kk (rR kk ps v)).d,none);generalize bS kk (rR kk ps v)=w at*;refine Ca.bO (n:=N+100) ?_;rw[av rfl (k1075:E1.fn _=_) rfl];obtain⟨ws,l1,l2,c,b,u,p,q,ew⟩:=w.aN;rw[ew]at t ⊢;unfold bA wD at*;generalize LK .i64 ps=l9,LK .i64 l=l8 at*;have i1:=idx e1;simp -implicitDefEqProofs[f1075,t,n1,e1,i1,hi,hic,i0]
 | none =>
  have hi:l.length<=i:=by simpa using h
  have hic:¬ (i:Int)<(l.length:Int):=by omega
  show Ca E1 1075 _ (.d (bS kk (if i=one then Fw kk ps else aW kk ps)).d,none)
  by_cases ho:i=one
  ·rw[if_pos ho];subst ho;obtain⟨N,t⟩:=(Y9 hv).2.get;rw[show(dz kk ps).map oq=Fw kk ps from rfl]at t;generalize bS kk (Fw kk ps)=w at*;refine Ca.bO (n:=N+100) ?_;rw[av rfl (k1075:E1.fn _=_) rfl];obtain⟨ws,l1,l2,c,b,u,p,q,ew⟩:=w.aN;rw[ew]at t ⊢;unfold bA wD at*;generalize LK .i64 ps=l9,LK .i64 l=l8 at*;simp -implicitDefEqProofs[f1075,t,n1,hic]
  ·rw[if_neg ho];obtain⟨N,t⟩:=(AX hv).get;rw[show(dz kk ps).map dF=aW kk ps from rfl]at t;have hne:((i:Int)==(one:Int))=false:=by simp;omega
   generalize bS kk (aW kk ps)=w at*;refine Ca.bO (n:=N+100) ?_;rw[av rfl (k1075:E1.fn _=_) rfl];obtain⟨ws,l1,l2,c,b,u,p,q,ew⟩:=w.aN;rw[ew]at t ⊢;unfold bA wD at*;generalize LK .i64 ps=l9,LK .i64 l=l8 at*;simp -implicitDefEqProofs[f1075,t,n1,hic,hne]
theorem Wi {kk:Int}{ps:List Int}(hv:aJ kk ps=true)(l:List Int)(i one:Nat):Wt kk ps (y7 kk ps l i one):=by
 unfold y7;cases l[i]? with
 | some v=>exact⟨Q3 hv v,(Dy hv v).mono omK⟩
 | none =>
  show Wt kk ps (if i=one then Fw kk ps else aW kk ps);split
  ·exact⟨JI omK omK (aQ hv),ZJ (aQ hv) omK⟩
  ·exact⟨kr omK (aQ hv),oD (aQ hv) _ _⟩
end Fi.S
noncomputable section
namespace Fi.S
open Go Fi
set_option maxHeartbeats 8000000
set_option maxRecDepth 10000
def moD (st:Int)(li lf la:List Int):D:=.a [.v (.int .i64 st),.s 1 (LK .i64 li),.s 1 (LK .i64 lf),.s 1 (LK .i64 la),.v (.bool false)]
def bP (st:Int)(li lf la:List Int):ae:=.box [.d (.v (.int .i64 st)),.d (.s 1 (LK .i64 li)),.d (.s 1 (LK .i64 lf)),.d (.s 1 (LK .i64 la)),.d (.v (.bool false))]
def dD (kk:Int)(ps:List Int):ae:=.box [.d (.v (.int .i64 kk)),.d (.s 1 (LK .i64 ps))]
def Hq:ae:=.box [.d (.v (.int .i64 0)),.d (.n 1),.d (.v (.int .i64 0)),.d (.v (.int .i64 0)),.d (.n 8),.d (.n 8),.d (.n 11)]
def Nc (kk:Int)(ps:List Int)(sy:Int)(n:Nat)(x y w:FV):ae:=.box [.d (.v (.int .i64 kk)),.d (.s 1 (LK .i64 ps)),.d (.v (.int .i64 sy)),.d (.v (.int .i64 n)),x,y,w]
def Q4 (sy:Int)(n:Nat)(L:List ae)(j:Nat)(t:FV):St :=
 (st0 [.u,.u,.d (.v (.int .i64 sy)),.u,.r (.loc 0) 0,.r (.loc 1) 0,.r (.loc 2) 0,.d (.v (.int .i64 n)),.r (.loc 3) 0,.d (.v (.int .i64 j)),.u,.u,t,.u,.u] L)
def mL1:aG:=f1028.body.r.r.r.l.r.bl.lp
def mH (M R:ae)(kk:Int)(ps:List Int)(sy:Int)(n:Nat)(is fs:List D):List ae :=
 if is.length=0 then [M,R,Hq,Nc kk ps sy n (.d (.n 8)) (.d (.n 8)) (.d (.n 11))]
 else [M,R,Hq,Nc kk ps sy n (.ls (.loc 4) (is.length-1) 8 0 is.length) (.ls (.loc 5) (is.length-1) 8 0 is.length) (.d (.n 11)),.row (is.length-1) 8 is,.row (is.length-1) 8 fs]
theorem Wj (st:Int)(li lf la:List Int)(kk:Int)(ps:List Int)(sy:Int)(n j:Nat)(hj:j<n)(hn:n<=4)(is fs:List D)(hi:is.length=j)(hf:fs.length=j)(w v:W)
  (h1:Ca E1 1075 [.d (bA kk ps),.d (.s 1 (LK .i64 li)),.d (.v (.int .i64 j)),.d (.v (.int .i64 0))] (.d w.d,none))
  (h2:Ca E1 1075 [.d (bA kk ps),.d (.s 1 (LK .i64 lf)),.d (.v (.int .i64 j)),.d (.v (.int .i64 ((n:Int)-1)))] (.d v.d,none)) :
  Ex E1 mL1 (Q4 sy n (mH (bP st li lf la) (dD kk ps) kk ps sy n is fs) j .u) (.norm,Q4 sy n (mH (bP st li lf la) (dD kk ps) kk ps sy n (is++[w.d]) (fs++[v.d])) (j+1) .u):=by
 obtain⟨K,hK,t1,t2⟩:=(h1.j h2.any).at 0;have hjn:(j:Int)<(n:Int):=by omega
 have hw:ah .i64 ((j:Int)+1)=(j:Int)+1:=wrap_i64 omK;have hw2:ah .i64 ((n:Int)-1)=(n:Int)-1:=wrap_i64 omK;have hj1:((j+1:Nat):Int)=(j:Int)+1:=by omega
 have hl1:(is++[w.d]).length=j+1:=by simp[hi]
 refine Ex.of (n:=K+300) ?_;obtain⟨ws,l1,l2,c,b,u,p,q,ew⟩:=w.aN;obtain⟨vs,k1,k2,c',b',u',p',q',ev⟩:=v.aN;unfold Q4 mH;rw[hl1,if_neg (show ¬ j+1=0 by omega),hi,hj1,Q12];rw[ew]at t1 ⊢;rw[ev]at t2 ⊢;clear h1 h2 ew ev;unfold bP dD Hq Nc bA wD at*;generalize LK .i64 ps=l9,LK .i64 li=l8,LK .i64 lf=l7,LK .i64 la=l6 at*;cases j with
 | zero =>
  have e1:is=[]:=Xg1.1 hi;have e2:fs=[]:=Xg1.1 hf;subst e1 e2;have z0:((0:Nat):Int)=0:=rfl;rw[z0]at t1 t2 hw ⊢;rw[if_pos rfl];simp (maxSteps:=400000) -implicitDefEqProofs[mL1,f1028,t1,t2,hw,hw2,hj,hjn,MQ,most]
 | succ k =>
  have hk:((k+1:Nat):Int)=(k:Int)+1:=by omega
  rw[if_neg (show ¬ k+1=0 by omega),Q12];rw[hk]at t1 t2 hw hjn ⊢;have tk1:is.take (k+1)=is:=Qg0 omK;have tk2:fs.take (k+1)=fs:=Qg0 omK;have m1:(k+1+1)*128<=1099511627776:=by omega
  have m2:k+1+1<=1099511627776:=by omega
  simp (maxSteps:=400000) -implicitDefEqProofs[mL1,f1028,t1,t2,hw,hw2,hj,hjn,hi,hf,tk1,tk2,most,m1,m2]
theorem ZO (st:Int)(li lf la:List Int)(kk:Int)(ps:List Int)(sy:Int)(n:Nat)(hn:0<n)(is fs:List D)(hi:is.length=n) :
  Ex E1 mL1 (Q4 sy n (mH (bP st li lf la) (dD kk ps) kk ps sy n is fs) n .u) (.exit 0,Q4 sy n (mH (bP st li lf la) (dD kk ps) kk ps sy n is fs) n (.d (.v (.bool false)))):=by
 refine Ex.of (n:=100) ?_;unfold Q4 mH;rw[hi,if_neg omK];unfold bP dD Hq Nc;generalize LK .i64 ps=l9,LK .i64 li=l8,LK .i64 lf=l7,LK .i64 la=l6 at*;simp (maxSteps:=400000) -implicitDefEqProofs[mL1,f1028]
def Q5 (sy:Int)(n:Nat)(L:List ae)(j:Nat)(t:FV):St :=
 (st0 [.u,.u,.d (.v (.int .i64 sy)),.u,.r (.loc 0) 0,.r (.loc 1) 0,.r (.loc 2) 0,.d (.v (.int .i64 n)),.r (.loc 3) 0,.u,.d (.v (.int .i64 (4*j))),.u,.u,t,.u] L)
def mL2:aG:=f1028.body.r.r.r.r.l.r.bl.lp
def mA (M R:ae)(kk:Int)(ps:List Int)(sy:Int)(n:Nat)(is fs as':List D):List ae :=
 if as'.length=0 then [M,R,Hq,Nc kk ps sy n (.ls (.loc 4) (n-1) 8 0 n) (.ls (.loc 5) (n-1) 8 0 n) (.d (.n 11)),.row (n-1) 8 is,.row (n-1) 8 fs]
 else [M,R,Hq,Nc kk ps sy n (.ls (.loc 4) (n-1) 8 0 n) (.ls (.loc 5) (n-1) 8 0 n) (.ls (.loc 6) (as'.length-1) 11 0 as'.length),.row (n-1) 8 is,.row (n-1) 8 fs,.row (as'.length-1) 11 as']
variable {α:Type} {e:α->W}
theorem Wl (st:Int)(li lf la:List Int)(kk:Int)(ps:List Int)(sy:Int)(n j:Nat)(hn:0<n/\n<=4)(hsy:1<=sy/\sy<=32)(is fs as':List D)(ha:as'.length=j)(hj:j<10)(v0 v1 v2 v3:Int) 
  (g0:la[4*j]?=some v0) (g1:la[4*j+1]?=some v1) (g2:la[4*j+2]?=some v2) (g3:la[4*j+3]?=some v3) (x:α)
  (h0:Ca E1 46 [.d (.v (.int .i64 v0)),.d (.v (.int .i64 n))] (.d (.v (.int .i64 (v0 % n))),none)) (h1:Ca E1 46 [.d (.v (.int .i64 v1)),.d (.v (.int .i64 sy))] (.d (.v (.int .i64 (v1 % sy))),none))
  (h2:Ca E1 46 [.d (.v (.int .i64 v2)),.d (.v (.int .i64 n))] (.d (.v (.int .i64 (v2 % n))),none)) (h3:Ca E1 16 [.d (bA kk ps),.d (.v (.int .i64 v3))] (.d (e x).d,none)) :
  Ex E1 mL2 (Q5 sy n (mA (bP st li lf la) (dD kk ps) kk ps sy n is fs as') j .u) (.norm,Q5 sy n (mA (bP st li lf la) (dD kk ps) kk ps sy n is fs (as'++[Ar.d e ⟨v0 % n,1+v1 % sy,v2 % n,x⟩])) (j+1) .u):=by
 obtain⟨K,hK,t0,t1,t2,t3⟩:=(h0.j (h1.j (h2.j h3.any))).at 0;have q3:=(bD g3)
 have hlen:(LK .i64 la).length=la.length:=by simp[LK]
 have e0:(LK .i64 la)[4*j]?=some (.v (.int .i64 v0)):=by simp[LK,g0]
 have e1:(LK .i64 la)[4*j+1]?=some (.v (.int .i64 v1)):=by simp[LK,g1]
 have e2:(LK .i64 la)[4*j+2]?=some (.v (.int .i64 v2)):=by simp[LK,g2]
 have e3:(LK .i64 la)[4*j+3]?=some (.v (.int .i64 v3)):=by simp[LK,g3]
 have r1:=Qn0 v1 (show sy≠0 by omega);have r2:=Ql0 v1 (show 0<sy by omega);have hw1:ah .i64 (1+v1 % sy)=1+v1 % sy:=wrap_i64 omK;have hl1:(as'++[Ar.d e ⟨v0 % n,1+v1 % sy,v2 % n,x⟩]).length=j+1:=by simp[ha]
 have u1:((4*j+1:Nat):Int)=4*(j:Int)+1:=by omega
 have c4:4*((j+1:Nat):Int)=4*(j:Int)+4:=by omega
 refine Ex.of (n:=K+400) ?_;obtain⟨s,a1,a2,ac,ab,au,ap,aq,ew,ea⟩:=Ar.jD e (⟨v0 % n,1+v1 % sy,v2 % n,x⟩:Ar α);simp only at ew;unfold Q5 mA;rw[hl1,if_neg (show ¬ j+1=0 by omega),ha,c4,Q12,ea];rw[ew]at t3;clear h0 h1 h2 h3 ew ea hl1;unfold bP dD Hq Nc bA wD yO at*;simp only;generalize LK .i64 ps=l9,LK .i64 li=l8,LK .i64 lf=l7,LK .i64 la=l6,v1 % sy=w1 at*;generalize v0 % (n:Int)=w0 at*;generalize v2 % (n:Int)=w2 at*;have p0:4*j<la.length:=by omega
 have p1:4*j+1<la.length:=by omega
 have p2:4*j+2<la.length:=by omega
 obtain⟨k,hk⟩:∃ k:Nat,k=4*j:=⟨_,rfl⟩
 have hkI:4*(j:Int)=(k:Int):=by omega
 have alA:k<=36:=by omega
 have hkl:k+3<la.length:=by omega
 rw[<-hk]at e0 e1 e2 e3 p0 p1 p2 q3;rw[hkI];have i0:=idx e0;have i1:=idx e1;have i2:=idx e2;have i3:=idx e3;have s1:ah .i64 ((k:Int)+1)=(k:Int)+1:=wrap_i64 omK;have s2:ah .i64 ((k:Int)+2)=(k:Int)+2:=wrap_i64 omK;have s3:ah .i64 ((k:Int)+3)=(k:Int)+3:=wrap_i64 omK;have s4:ah .i64 ((k:Int)+4)=(k:Int)+4:=wrap_i64 omK;have b0:(0:Int)<=(k:Int):=by omega
 have b1:(0:Int)<=(k:Int)+1:=by omega
 have b2:(0:Int)<=(k:Int)+2:=by omega
 have b3:(0:Int)<=(k:Int)+3:=by omega
 have k0:(k:Int)<(la.length:Int):=by omega
 have k1:(k:Int)+1<(la.length:Int):=by omega
 have k2:(k:Int)+2<(la.length:Int):=by omega
 have k3:(k:Int)+3<(la.length:Int):=by omega
 have k4:(k:Int)<40:=by omega
 have d1:((k:Int)+1).toNat=k+1:=by omega
 have d2:((k:Int)+2).toNat=k+2:=by omega
 have d3:((k:Int)+3).toNat=k+3:=by omega
 cases j with
 | zero =>
  have e1:as'=[]:=Xg1.1 ha;subst e1;rw[if_pos rfl];simp (maxSteps:=800000) -implicitDefEqProofs[mL2,f1028,t0,t1,t2,t3,hw1,hlen,e0,e1,e2,e3,i0,i1,i2,i3,p0,p1,p2,q3,s1,s2,s3,s4,b0,b1,b2,b3,k0,k1,k2,k3,k4,d1,d2,d3,most]
 | succ m =>
  rw[if_neg (show ¬ m+1=0 by omega),Q12];have tk:as'.take (m+1)=as':=Qg0 omK;have m1:(m+1+1)*152<=1099511627776:=by omega
  have m2:m+1+1<=1099511627776:=by omega
  simp (maxSteps:=800000) -implicitDefEqProofs[mL2,f1028,t0,t1,t2,t3,hw1,hlen,e0,e1,e2,e3,i0,i1,i2,i3,p0,p1,p2,q3,s1,s2,s3,s4,b0,b1,b2,b3,k0,k1,k2,k3,k4,d1,d2,d3,ha,tk,most,m1,m2]
theorem ZP (st:Int)(li lf la:List Int)(kk:Int)(ps:List Int)(sy:Int)(n j:Nat)(is fs as':List D)(hj:j<=10)(h:la.length<4*j+4\/j=10) :
  Ex E1 mL2 (Q5 sy n (mA (bP st li lf la) (dD kk ps) kk ps sy n is fs as') j .u) (.exit 2,Q5 sy n (mA (bP st li lf la) (dD kk ps) kk ps sy n is fs as') j (.d (.v (.bool false)))):=by
 have hlen:(LK .i64 la).length=la.length:=by simp[LK]
 have s3:ah .i64 (4*(j:Int)+3)=4*(j:Int)+3:=wrap_i64 omK;refine Ex.of (n:=200) ?_;unfold Q5 mA;unfold bP dD Hq Nc;generalize LK .i64 ps=l9,LK .i64 li=l8,LK .i64 lf=l7,LK .i64 la=l6 at*
 by_cases h1:4*(j:Int)+3<(la.length:Int)
 ·have h2:¬ 4*(j:Int)<40:=by omega
  split<;>simp (maxSteps:=400000) -implicitDefEqProofs[mL2,f1028,hlen,s3,h1,h2]
 ·split<;>simp (maxSteps:=400000) -implicitDefEqProofs[mL2,f1028,hlen,s3,h1]
def stM (st:Int):Nat:=(1+ah .i64 (st-1) % 4).toNat
theorem O3 (st:Int):(stM st:Int)=1+ah .i64 (st-1) % 4:=by
 unfold stM;have h1:=Qn0 (ah .i64 (st-1)) (show(4:Int)≠0 by omega);omega
theorem Wm (st:Int):0<stM st/\stM st<=4:=by
 have h:=O3 st;have h1:=Qn0 (ah .i64 (st-1)) (show(4:Int)≠0 by omega);have h2:=Ql0 (ah .i64 (st-1)) (show(0:Int)<4 by omega);omega
def Ak (kk:Int)(ps:List Int)(l:List Int)(one n:Nat):List (List Sv):=(List.range n).map fun i=>y7 kk ps l i one
def age (kk:Int)(ps:List Int)(sy:Int)(n:Nat)(la:List Int)(j:Nat):Ar (List Sv):=⟨la.getD (4*j) 0 % n,1+la.getD (4*j+1) 0 % sy,la.getD (4*j+2) 0 % n,rR kk ps (la.getD (4*j+3) 0)⟩
def DI (la:List Int):Nat:=min 10 (la.length / 4)
def xI (kk:Int)(ps:List Int)(sy:Int)(n:Nat)(la:List Int):List (Ar (List Sv)):=(List.range (DI la)).map (age kk ps sy n la)
theorem Ke (kk:Int)(ps l:List Int)(one n:Nat):(Ak kk ps l one n).length=n:=by simp[Ak]
theorem Q6 (kk:Int)(ps:List Int)(sy:Int)(n:Nat)(la:List Int):(xI kk ps sy n la).length<=10:=by simp[xI,DI];omega
theorem ZQ {kk:Int}{ps:List Int}(hv:aJ kk ps=true)(st:Int)(li lf la:List Int)(sy:Int)(hsy:1<=sy/\sy<=32)(hi:∀ x ∈ li,d_ x)(hf:∀ x ∈ lf,d_ x)(ha:∀ x ∈ la,d_ x) :
  Ca E1 1028 [.d (moD st li lf la),.d (bA kk ps),.d (.v (.int .i64 sy)),.d (.v (.int .i64 4))]
   (.d (uP kk ps sy (stM st) ((Ak kk ps li 0 (stM st)).map (bS kk)) ((Ak kk ps lf (stM st-1) (stM st)).map (bS kk)) (bS kk) (xI kk ps sy (stM st) la)),none):=by
 obtain⟨hn0,hn4⟩:=Wm st;have hni:=O3 st;have cm:=Ca.fP (iW (ah .i64 (st-1)) 4 (Vl _) omK omK);have hw:ah .i64 (1+ah .i64 (st-1) % 4)=1+ah .i64 (st-1) % 4:=wrap_i64 omK;generalize hmm:ah .i64 (st-1) % 4=mm at*;generalize stM st=n at*;have e1:((Ak kk ps li 0 n).map (bS kk)).map W.d=(List.range n).map fun i=>(bS kk (y7 kk ps li i 0)).d:=by simp[Ak]
 have e2:((Ak kk ps lf (n-1) n).map (bS kk)).map W.d=(List.range n).map fun i=>(bS kk (y7 kk ps lf i (n-1))).d:=by simp[Ak]
 unfold uP;rw[e1,e2]
 -- the ends
 obtain⟨r1,hl1,hr1⟩:=Ex.fold (E:=E1) (b:=mL1) (List.range n) (fun(u:Unit) _=>u) () (fun j _ s=>s=Q4 sy n (mH (bP st li lf la) (dD kk ps) kk ps sy n ((List.range j).map fun i=>(bS kk (y7 kk ps li i 0)).d) ((List.range j).map fun i=>(bS kk (y7 kk ps lf i (n-1))).d)) j .u)
  (fun _ q=>q=(.exit 0,Q4 sy n (mH (bP st li lf la) (dD kk ps) kk ps sy n ((List.range n).map fun i=>(bS kk (y7 kk ps li i 0)).d) ((List.range n).map fun i=>(bS kk (y7 kk ps lf i (n-1))).d)) n (.d (.v (.bool false)))))
  (fun j a s hj hs=>by
   have hjn:j<n:=by simpa using(bD hj)
   subst hs;refine⟨_,?_,rfl⟩;rw[List.range_succ,Qq0,Qq0];have c2:=Wh hv lf hf j (n-1);rw[show(((n-1:Nat)):Int)=(n:Int)-1 by omega]at c2;exact Wj st li lf la kk ps sy n j hjn hn4 _ _ (by simp) (by simp) _ _ (Wh hv li hi j 0) c2)
  (fun s hs=>by
   subst hs;simp only[Xp2];exact⟨_,ZO st li lf la kk ps sy n hn0 _ _ (by simp),by simp,rfl⟩)
  (st:=Q4 sy n (mH (bP st li lf la) (dD kk ps) kk ps sy n [] []) 0 .u) rfl
 subst hr1;generalize hIs:((List.range n).map fun i=>(bS kk (y7 kk ps li i 0)).d)=is at*;generalize hFs:((List.range n).map fun i=>(bS kk (y7 kk ps lf i (n-1))).d)=fs at*;have hil:is.length=n:=by rw[<-hIs];simp
 have hfl:fs.length=n:=by rw[<-hFs];simp
 clear hIs hFs e1 e2
 -- the ak
 obtain⟨r2,hl2,hr2⟩:=Ex.fold (E:=E1) (b:=mL2) (List.range (DI la)) (fun(u:Unit) _=>u) () (fun j _ s=>s=Q5 sy n (mA (bP st li lf la) (dD kk ps) kk ps sy n is fs (((List.range j).map (age kk ps sy n la)).map (Ar.d (bS kk)))) j .u)
  (fun _ q=>q=(.exit 2,Q5 sy n (mA (bP st li lf la) (dD kk ps) kk ps sy n is fs ((xI kk ps sy n la).map (Ar.d (bS kk)))) (DI la) (.d (.v (.bool false)))))
  (fun j a s hj hs=>by
   have hjn:j<DI la:=by simpa using(bD hj)
   have ai1:=hjn;unfold DI at ai1;subst hs;refine⟨_,?_,rfl⟩;rw[List.range_succ,Qq0,Qq0];have g:∀ k,k<4->la[4*j+k]?=some (la.getD (4*j+k) 0):=fun k hk=>by
    rw[Qh1,Qa0 omK];rfl
   have gr:∀ k,k<4->d_ (la.getD (4*j+k) 0):=fun k hk=>ha _ (Qa2 (g k hk))
   exact Wl (e:=bS kk) st li lf la kk ps sy n j ⟨hn0,hn4⟩ hsy is fs _ (by simp) omK _ _ _ _ (g 0 omK) (g 1 omK) (g 2 omK) (g 3 omK) _
    (Ca.fP (iW _ n (gr 0 omK) omK omK)) (Ca.fP (iW _ sy (gr 1 omK) omK omK)) (Ca.fP (iW _ n (gr 2 omK) omK omK)) (JM hv _ (gr 3 omK)))
  (fun s hs=>by
   subst hs;simp only[Xp2];exact⟨_,ZP st li lf la kk ps sy n (DI la) is fs _ (by unfold DI;omega) (by unfold DI;omega),by simp,rfl⟩)
  (st:=Q5 sy n (mA (bP st li lf la) (dD kk ps) kk ps sy n is fs []) 0 .u) rfl
 subst hr2;have hal:((xI kk ps sy n la).map (Ar.d (bS kk))).length=DI la:=by simp[xI]
 generalize (xI kk ps sy n la).map (Ar.d (bS kk))=as' at*;obtain⟨N,t⟩:=cm.get;have hA:Ex E1 f1028.body.l (st0 [.d (moD st li lf la),.d (bA kk ps),.d (.v (.int .i64 sy)),.d (.v (.int .i64 4)),.u,.u,.u,.u,.u,.u,.u,.u,.u,.u,.u] [])
   (.norm,(st0 [.u,.u,.d (.v (.int .i64 sy)),.d (.v (.int .i64 4)),.r (.loc 0) 0,.r (.loc 1) 0,.r (.loc 2) 0,.u,.u,.u,.u,.u,.u,.u,.u] [bP st li lf la,dD kk ps,Hq])):=by
  refine Ex.of (n:=60) ?_;unfold moD bP bA dD Hq;generalize LK .i64 ps=l9,LK .i64 li=l8,LK .i64 lf=l7,LK .i64 la=l6 at*;simp -implicitDefEqProofs[f1028]
 have hB:Ex E1 f1028.body.r.l (st0 [.u,.u,.d (.v (.int .i64 sy)),.d (.v (.int .i64 4)),.r (.loc 0) 0,.r (.loc 1) 0,.r (.loc 2) 0,.u,.u,.u,.u,.u,.u,.u,.u] [bP st li lf la,dD kk ps,Hq])
   (.norm,(st0 [.u,.u,.d (.v (.int .i64 sy)),.u,.r (.loc 0) 0,.r (.loc 1) 0,.r (.loc 2) 0,.d (.v (.int .i64 n)),.u,.u,.u,.u,.u,.u,.u] [bP st li lf la,dD kk ps,Hq])):=by
  refine Ex.of (n:=N+60) ?_;rw[hni];unfold bP dD Hq;generalize LK .i64 ps=l9,LK .i64 li=l8,LK .i64 lf=l7,LK .i64 la=l6 at*;simp -implicitDefEqProofs[f1028,t,hw]
 have hC:Ex E1 f1028.body.r.r.l (st0 [.u,.u,.d (.v (.int .i64 sy)),.u,.r (.loc 0) 0,.r (.loc 1) 0,.r (.loc 2) 0,.d (.v (.int .i64 n)),.u,.u,.u,.u,.u,.u,.u] [bP st li lf la,dD kk ps,Hq])
   (.norm,(st0 [.u,.u,.d (.v (.int .i64 sy)),.u,.r (.loc 0) 0,.r (.loc 1) 0,.r (.loc 2) 0,.d (.v (.int .i64 n)),.r (.loc 3) 0,.u,.u,.u,.u,.u,.u] [bP st li lf la,dD kk ps,Hq,Nc kk ps sy n (.d (.n 8)) (.d (.n 8)) (.d (.n 11))])):=by
  refine Ex.of (n:=100) ?_;unfold bP dD Hq Nc;generalize LK .i64 ps=l9,LK .i64 li=l8,LK .i64 lf=l7,LK .i64 la=l6 at*;simp -implicitDefEqProofs[f1028]
 have hD:Ex E1 f1028.body.r.r.r.l.l (st0 [.u,.u,.d (.v (.int .i64 sy)),.u,.r (.loc 0) 0,.r (.loc 1) 0,.r (.loc 2) 0,.d (.v (.int .i64 n)),.r (.loc 3) 0,.u,.u,.u,.u,.u,.u] [bP st li lf la,dD kk ps,Hq,Nc kk ps sy n (.d (.n 8)) (.d (.n 8)) (.d (.n 11))])
   (.norm,Q4 sy n (mH (bP st li lf la) (dD kk ps) kk ps sy n [] []) 0 .u):=by
  refine Ex.of (n:=60) ?_;unfold Q4 mH;simp -implicitDefEqProofs[f1028]
 have hE:Ex E1 f1028.body.r.r.r.r.l.l (Q4 sy n (mH (bP st li lf la) (dD kk ps) kk ps sy n is fs) n (.d (.v (.bool false))))
   (.norm,Q5 sy n (mA (bP st li lf la) (dD kk ps) kk ps sy n is fs []) 0 .u):=by
  refine Ex.of (n:=60) ?_;unfold Q4 Q5 mH mA;rw[hil,if_neg omK,if_pos (show([]:List D).length=0 from rfl)];simp -implicitDefEqProofs[f1028]
 refine Ca.body (o:=.ret) (st1:=(st0 [.u,.u,.u,.u,.u,.u,.r (.loc 2) 0,.u,.u,.u,.u,.u,.u,.u,.u] ((mA (bP st li lf la) (dD kk ps) kk ps sy n is fs as').set 2 (Nc kk ps sy n (.ls (.loc 4) (n-1) 8 0 n) (.ls (.loc 5) (n-1) 8 0 n) (if as'.length=0 then .d (.n 11) else .ls (.loc 6) (as'.length-1) 11 0 as'.length))))) rfl (k1028:E1.fn _=_) rfl ?_ (by intro id h;cases h) ?_
 ·have hF : Ex E1 f1028.body.r.r.r.r.r (Q5 sy n (mA (bP st li lf la) (dD kk ps) kk ps sy n is fs as') (DI la) (.d (.v (.bool false))))
       (.ret, (st0 [.u, .u, .u, .u, .u, .u, .r (.loc 2) 0, .u, .u, .u, .u, .u, .u, .u, .u] ((mA (bP st li lf la) (dD kk ps) kk ps sy n is fs as').set 2 (Nc kk ps sy n (.ls (.loc 4) (n - 1) 8 0 n) (.ls (.loc 5) (n - 1) 8 0 n) (if as'.length = 0 then .d (.n 11) else .ls (.loc 6) (as'.length - 1) 11 0 as'.length))))) := by
   refine Ex.of (n:=100) ?_;unfold Q5 mA bP dD Hq Nc;generalize LK .i64 ps=l9,LK .i64 li=l8,LK .i64 lf=l7,LK .i64 la=l6 at*
   by_cases h:as'.length=0
   ·rw[if_pos h,if_pos h];simp -implicitDefEqProofs[f1028]
   ·rw[if_neg h,if_neg h];simp -implicitDefEqProofs[f1028]
  show Ex E1 (.seq f1028.body.l (.seq f1028.body.r.l (.seq f1028.body.r.r.l (.seq (.seq f1028.body.r.r.r.l.l (.block 0 (.loop mL1))) (.seq (.seq f1028.body.r.r.r.r.l.l (.block 2 (.loop mL2))) f1028.body.r.r.r.r.r))))) _ _;exact hA.seq (hB.seq (hC.seq ((hD.seq hl1.block).seq ((hE.seq hl2.block).seq hF))))
 ·have v1:ae.view (n-1) 8 0 n (.row (n-1) 8 is)=some is:=by rw[<-hil];simp[ae.view]
  have v2:ae.view (n-1) 8 0 n (.row (n-1) 8 fs)=some fs:=by rw[<-hfl];simp[ae.view]
  have v3:ae.view (as'.length-1) 11 0 as'.length (.row (as'.length-1) 11 as')=some as':=by simp[ae.view]
  unfold mA bP dD Hq Nc qW;generalize LK .i64 ps=l9,LK .i64 li=l8,LK .i64 lf=l7,LK .i64 la=l6 at*
  by_cases h:as'.length=0
  ·have h':as'=[]:=Xg1.1 h;subst h';simp -implicitDefEqProofs[f1028,v1,v2]
  ·rw[if_neg h,if_neg h];simp -implicitDefEqProofs[f1028,v1,v2,v3]
end Fi.S
noncomputable section
namespace Fi.S
open Go Fi
set_option maxHeartbeats 8000000
set_option maxRecDepth 10000
theorem ado {k:Int}(hk:single k=true){S M:Nat}{x:Sv}(hx:x.of k S M)(h:x.w=(dF k).w):x=dF k:=by
 rcases aO hk with rfl|rfl|rfl|rfl|rfl
 ·obtain⟨a,rfl,_⟩:=wX hx
  injection h with h1 h2 h3
  show Sv.q a=.q 0;rw[<-ru a,h1,h2,h3,ru]
 ·obtain⟨i,n,rfl,_⟩:=wY hx
  injection h with _ _ _ h1 h2
  show Sv.c i n=.c true 0;rw[h1,h2]
 ·obtain⟨a,rfl,_⟩:=wZ hx
  injection h with h1 h2 h3
  show Sv.q a=.q 0;rw[<-ru a,h1,h2,h3,ru]
 ·obtain⟨u,rfl,_⟩:=w9 hx
  injection h with _ _ _ _ _ h1
  show Sv.s u=.s 0;rw[h1]
 ·obtain⟨a,rfl,_⟩:=w_ hx
  injection h with _ _ _ _ _ _ h1
  have:a=[]:=Xr2.1 h1;rw[this];rfl
theorem Wn {kk:Int}{ps:List Int}(hv:aJ kk ps=true){x:List Sv}(hx:vM (dz kk ps) x)(h:Et kk ps x=true):x=aW kk ps:=by
 have he:=W.OV h;obtain⟨S,M,_,_,hx⟩:=hx;have hs:=aQ hv;have hz:gU 1 1 (dz kk ps) (aW kk ps):=kr omK hs;refine ma hx.1 hz.1 (fun i k a b hk ha hb => ?_);have hb':b=dF k:=nQ hk hb;subst hb';refine ado (hs k (Qa2 hk)) (hx.2 i k a hk ha) ?_;unfold bS at he
 by_cases h6:kk=6
 ·rw[if_pos h6,if_pos h6]at he
  injection he with _ _ _ _ _ _ _ he
  have h1:(x.map Sv.w)[i]?=some a.w:=by rw[Qb1,ha];rfl
  have h2:((aW kk ps).map Sv.w)[i]?=some (dF k).w:=by rw[Qb1,hb];rfl
  rw[he,h2]at h1;exact(Qo2 h1).symm
 ·rw[if_neg h6,if_neg h6]at he;have hl:x.length=1:=by rw[hx.1];unfold dz;rw[if_neg h6];rfl
  have hi:i=0:=by have:=(bD ha);omega
  subst hi;have e1:x.headD (.q 0)=a:=by
   cases x with
   | nil=>cases ha
   | cons y r=>cases ha;rfl
  have e2:(aW kk ps).headD (.q 0)=dF k:=by
   cases hq:aW kk ps with
   | nil=>rw[hq]at hb;cases hb
   | cons y r=>rw[hq]at hb;cases hb;rfl
  rw[e1,e2]at he;exact he
def GF (kk:Int)(ps:List Int)(n:Nat)(x:List Sv):Prop:=1<=n/\vM (dz kk ps) x/\uG 6 (640*n) x
theorem GF.ofs {kk:Int}{ps:List Int}(hv:aJ kk ps=true){n:Nat}{x:List Sv}(h:GF kk ps n x)(hn:n<=1000):gU 3 216 (dz kk ps) x:=xH (aQ hv) h.2.1 h.2.2 omK omK omK
theorem Wt.gf {kk:Int}{ps:List Int}{x:List Sv}(h:Wt kk ps x):GF kk ps 1 x:=⟨Qd1 _,h.gd,h.2⟩
theorem ai2 {kk:Int}{ps:List Int}(hv:aJ kk ps=true):Wts kk ps (bS kk) (bL (dz kk ps)) (bS kk (aW kk ps)) (Et kk ps) (GF kk ps) 20 where
 mono n x h:=⟨by omega,h.2.1,h.2.2.mono omK⟩
 zero:=Fu hv
 pz x h:=by
  have h3:=h.ofs hv omK;have:=OD hv omK omK h3 (kr (M:=216) omK (aQ hv));rw[Cz (S:=3) (M:=216) omK (aQ hv) h3]at this;exact this
 tk x h:=xe hv omK omK (h.ofs hv omK)
 p1 n x y hn hx hy:=OD hv (S:=3) (M:=216) omK omK (hx.ofs hv omK) (hy.ofs hv omK)
 p2 n x y hn hx hy:=JO hv (S:=3) (M:=216) omK omK (hx.ofs hv omK) (hy.ofs hv omK)
 pg n x y hn hx hy:=by
  have h1:=hx.1;refine⟨by omega,(Ka (aQ hv)).pp hx.2.1 hy.2.1,?_⟩;exact(Dw (aQ hv) hx.2.1 hy.2.1 hx.2.2 hy.2.2).mono omK
 z1 n x hn hx:=(Vv hv omK (hx.ofs hv omK)).1
 z2 n x hn hx:=(Vv hv omK (hx.ofs hv omK)).2
theorem FI {kk:Int}{ps:List Int}(hv:aJ kk ps=true){S M D N T:Nat}{x:List Sv}(h:gU S M (dz kk ps) x)(hf:uG D N x)(hD:0<D)(hDT:D<4294967296 ^ T)(hN:N<4294967296 ^ T):gU T M (dz kk ps) x:=by
 refine⟨h.1,fun i k x hk hx => ?_⟩;have g1:=h.2 i k x hk hx;have g2:=Nb (T:=T) (aQ hv k (Qa2 hk)) g1 (hf x (Qa2 hx)) hD hDT hN;cases x with
 | q a=>exact⟨g2.1,g2.2⟩
 | c i n=>exact g2
 | s u=>exact g2
 | p l=>exact⟨g2.1,g2.2.1,g1.2.2⟩
section ak
variable {kk:Int} {ps:List Int} (hv:aJ kk ps=true)
include hv
structure FJ (kk:Int)(ps:List Int)(sy n:Nat)(a:Ar (List Sv)):Prop where
 f:0<=a.f/\a.f<n
 l:1<=a.l/\a.l<=sy
 t:0<=a.t/\a.t<n
 x:gU 9 2 (dz kk ps) a.x
 fr:uG 6 64 a.x
theorem FJ.wt {sy n:Nat}{a:Ar (List Sv)}(h:FJ kk ps sy n a):Wt kk ps a.x:=⟨(FI (T:=3) hv h.x h.fr omK omK omK).mono omK omK,h.fr.mono omK⟩
theorem Kg {sy n:Nat}{fo:List Sv->Bool}{l:List (Ar (List Sv))}(h:∀ a ∈ l,FJ kk ps sy n a)(hl:l.length<=10):∀ a ∈ fD (bL (dz kk ps)) fo l,Wt kk ps a.x/\(0<=a.f/\a.f<n)/\(1<=a.l/\a.l<=sy)/\(0<=a.t/\a.t<n):=by
 let Q:Nat->Ar (List Sv)->Prop:=fun j a=>gU (10*j+1) (2*j) (dz kk ps) a.x/\uG 6 (64*j) a.x/\(0<=a.f/\a.f<n)/\(1<=a.l/\a.l<=sy)/\(0<=a.t/\a.t<n)
 have A:=Ka (aQ hv);have key:∀ (l:List (Ar (List Sv))) (p:List (Ar (List Sv))) (j:Nat),(∀ a ∈ l,FJ kk ps sy n a)->(∀ a ∈ p,Q j a)->∀ a ∈ l.foldl (fun p x=>bQ (bL (dz kk ps)) x p) p,Q (j+l.length) a:=by
  intro l
  induction l with
  | nil=>intro p j _ hp;exact hp
  | cons x l ih =>
   intro p j hl hp;have hx:=hl x (by simp);rw[Qm0,show j+(x::l).length=(j+1)+l.length by simp;omega];refine ih _ (j+1) (fun a ha=>hl a (by simp[ha])) ?_;refine pQ (bL (dz kk ps)) x (Q j) (Q (j+1)) ⟨hx.x.mono omK omK,hx.fr.mono omK,hx.f,hx.l,hx.t⟩ (fun y hy=>⟨hy.1.mono omK omK,hy.2.1.mono omK,hy.2.2⟩) (fun y hy=>⟨?_,?_,hy.2.2⟩) p hp
   ·exact(C_ omK omK (aQ hv) hy.1 hx.x).mono omK omK
   ·refine(Dw (aQ hv) ⟨_,_,by omega,?_,hy.1.mono (Qd1 _) (show 2*j<=2*j+1 by omega)⟩ ⟨_,_,by omega,by omega,hx.x⟩ hy.2.1 hx.fr).mono omK;omega
 intro a ha;have h2:=key l [] 0 h (fun a ha=>by cases ha) a (Qz1.1 ha).1;rw[Qx1]at h2;obtain⟨g1,g2,g3⟩:=h2;exact⟨⟨(FI hv (T:=3) g1 g2 omK omK omK).mono omK omK,g2.mono omK⟩,g3⟩
theorem Nf (sy:Nat)(hsy:1<=sy)(n:Nat)(hn:0<n)(la:List Int):∀ a ∈ xI kk ps sy n la,FJ kk ps sy n a:=by
 intro a ha;obtain⟨j,hj,rfl⟩:=Qg2.1 ha;have r:∀ v:Int,0<=v%(n:Int)/\v%(n:Int)<(n:Int):=fun v=>⟨Qn0 v (show(n:Int)≠0 by omega),Ql0 v (show 0<(n:Int) by omega)⟩
 have r2:∀ v:Int,0<=v%(sy:Int)/\v%(sy:Int)<(sy:Int):=fun v=>⟨Qn0 v (show(sy:Int)≠0 by omega),Ql0 v (show 0<(sy:Int) by omega)⟩
 have q:=r2 (la.getD (4*j+1) 0);exact⟨r _,⟨by show 1<=1+_;omega,by show 1+_<=_;omega⟩,r _,Fv hv _,Dy hv _⟩
theorem Kh {x:List Sv}(h:Wt kk ps x):(bS kk x).OK/\cZ kk ps (bS kk x)=true:=⟨JJ hv omK h.1,CJ hv h.1⟩
theorem Q7 {sy n:Nat}(hsy:1<=sy/\sy<=32)(hn:n<=64){aM fin:List (List Sv)}{ak:List (Ar (List Sv))}(h1:aM.length=n)(h2:fin.length=n)(hi:∀ x ∈ aM,Wt kk ps x)(hf:∀ x ∈ fin,Wt kk ps x)(ha:ak.length<=2048)
  (hw:∀ a ∈ ak,Wt kk ps a.x/\(0<=a.f/\a.f<n)/\(1<=a.l/\a.l<=sy)/\(0<=a.t/\a.t<n)) :
  MZ kk ps sy n (aM.map (bS kk)) (fin.map (bS kk)) (bS kk) ak=true:=by
 have e1:ak.all (pR kk ps sy n (bS kk))=true:=by
  rw[Qf2];intro a ha;obtain⟨g1,g2,g3,g4⟩:=hw a ha;unfold pR AY;rw[(Kh hv g1).2];simp only[X40,Qb2,decide_eq_true_eq];omega
 have e2:∀ {l:List (List Sv)},(∀ x ∈ l,Wt kk ps x)->(l.map (bS kk)).all (cZ kk ps)=true:=by
  intro l h;rw[Qf2];intro w hw;obtain⟨x,hx,rfl⟩:=Qg2.1 hw;exact(Kh hv (h x hx)).2
 unfold MZ OM;rw[e1,e2 hi,e2 hf,hv];simp only[Qk2,Qb2,decide_eq_true_eq,X40,Qs0,and_true,true_and];omega
end ak
end Fi.S
