import Derived.Test.YtckkhcnfdmlabaaGreatDoorDA
import Derived.Test.YtckkhcnfdmlabaaGreatDoorCX
set_option linter.unusedVariables false
set_option linter.unusedSimpArgs false
noncomputable section
noncomputable section
namespace Fi.S
open Go Fi
set_option maxHeartbeats 8000000
set_option maxRecDepth 10000
variable {α:Type} {e:α->W}
def kg (w:W):ae:=.box (w.d.cells.map .d)
def Yo:aH:=f1060.body.r.r.r.l.r.bl.lp
def J6 (B:ae)(s:Int)(l8:List D)(acc:W)(j:Nat)(t:FV):St :=
 (st0 [.u,.d (.v (.int .i64 s)),.d (.s 1 l8),.r (.loc 0) 0,.r (.loc 1) 0,.r (.loc 2) 0,.d (.v (.int .i64 j)),.u,t,.u] [B,bn (.d (.n 8)),kg acc])
theorem abP (kk:Int)(ps:List Int)(sy st:Int)(aZ fin:List D)(aB:List (Ar α))(j:Nat)(a:Ar α)(ha:aB[j]?=some a)(hn:aB.length<=1000)(r:List Int)(hr:r.length<=1000)(acc y t' q':W)
  (hy:Ca E1 1060 [.d (u7 kk ps sy st aZ fin (aB.map (Ar.d e))),.d (.v (.int .i64 a.t)),.d (.s 1 (LK .i64 r))] (.d y.d,none))
  (ht:Ca E1 21 [.d (bz kk ps),.d (e a.x).d,.d y.d] (.d t'.d,none)) (hp:Ca E1 19 [.d (bz kk ps),.d acc.d,.d t'.d] (.d q'.d,none)) :
  Ex E1 Yo (J6 (aX kk ps sy st aZ fin (aB.map (Ar.d e))) a.f (LK .i64 (a.l::r)) acc j .u) (.norm,J6 (aX kk ps sy st aZ fin (aB.map (Ar.d e))) a.f (LK .i64 (a.l::r)) q' (j+1) .u):=by
 obtain⟨K,hK,t2,t3,t4⟩:=(hy.j (ht.j hp.any)).at 0;have hj:j<aB.length:=(bH ha)
 have he:(aB.map (Ar.d e))[j]?=some (a.d e):=by rw[List.getElem?_map,ha];rfl
 have hel:(aB.map (Ar.d e)).length=aB.length:=by simp
 refine Ex.of (n:=K+300) ?_;obtain⟨ys,y1,y2,yc,yb,yu,yp,yq,ey⟩:=y.aM;obtain⟨ts,tl1,tl2,tc,tb,tu,tp,tq,et⟩:=t'.aM;obtain⟨qs',q1,q2,qc,qb,qu,qp,qq,eq⟩:=q'.aM;obtain⟨cs,c1,c2,cc,cb,cu,cp,cq,ec⟩:=acc.aM;obtain⟨sa,a1,a2,ac,ab,au,ap,aq,ew,ea⟩:=a.jO e;unfold J6 kg;simp only[ea,ey,et,eq,ew,ec]at*;have hl:(LK .i64 (a.l::r)).length=r.length+1:=by simp[LK]
 have x0:(LK .i64 (a.l::r))[0]?=some (.v (.int .i64 a.l)):=rfl;have hd:(LK .i64 (a.l::r)).drop 1=LK .i64 r:=rfl;have htk:(LK .i64 r).take r.length=LK .i64 r:=List.take_of_length_le (by simp[LK]);clear hy ht hp ey et eq ew ea ec;unfold aX u7 bz wD BO at*;generalize LK .i64 (a.l::r)=l8 at*;generalize LK .i64 r=l7,LK .i64 ps=l9,aB.map (Ar.d e)=es,aB.length=n at*;have i0:=idx x0;have i1:=idx he;have hp:(0:Int)<(r.length:Int)+1:=by omega
 have hp1:(1:Int)<=(r.length:Int)+1:=by omega
 have hp2:1<=r.length+1:=by omega
 have hjn:(j:Int)<(n:Int):=by omega
 have hj0:(0:Int)<=(j:Int):=by omega
 have hw:ah .i64 ((j:Int)+1)=(j:Int)+1:=wrap_i64 (by omega);have hj1:((j+1:Nat):Int)=(j:Int)+1:=by omega
 rw[hj1];unfold bn;simp (maxSteps:=400000) -implicitDefEqProofs[Yo,f1060,t2,t3,t4,jo,Du,hl,x0,i0,i1,he,hel,hj,hjn,hj0,hw,hp,hp1,hp2,hd,htk]
theorem Yp (kk:Int)(ps:List Int)(sy st:Int)(aZ fin:List D)(aB:List (Ar α))(j:Nat)(a:Ar α)(ha:aB[j]?=some a)(hn:aB.length<=1000)(s x:Int)(r:List Int)(acc:W)(h:¬ (a.f=s/\a.l=x)) :
  Ex E1 Yo (J6 (aX kk ps sy st aZ fin (aB.map (Ar.d e))) s (LK .i64 (x::r)) acc j .u) (.norm,J6 (aX kk ps sy st aZ fin (aB.map (Ar.d e))) s (LK .i64 (x::r)) acc (j+1) .u):=by
 have hj:j<aB.length:=(bH ha)
 have he:(aB.map (Ar.d e))[j]?=some (a.d e):=by rw[List.getElem?_map,ha];rfl
 have hel:(aB.map (Ar.d e)).length=aB.length:=by simp
 refine Ex.of (n:=300) ?_;obtain⟨cs,c1,c2,cc,cb,cu,cp,cq,ec⟩:=acc.aM;obtain⟨sa,a1,a2,ac,ab,au,ap,aq,ew,ea⟩:=a.jO e;unfold J6 kg;simp only[ea,ec]at*;have hl:(LK .i64 (x::r)).length=r.length+1:=by simp[LK]
 have x0:(LK .i64 (x::r))[0]?=some (.v (.int .i64 x)):=rfl;clear ew ea ec;unfold aX wD BO at*;generalize LK .i64 (x::r)=l8 at*;generalize LK .i64 ps=l9,aB.map (Ar.d e)=es,aB.length=n at*;have i0:=idx x0;have i1:=idx he;have hp:(0:Int)<(r.length:Int)+1:=by omega
 have hjn:(j:Int)<(n:Int):=by omega
 have hj0:(0:Int)<=(j:Int):=by omega
 have hw:ah .i64 ((j:Int)+1)=(j:Int)+1:=wrap_i64 (by omega);have hj1:((j+1:Nat):Int)=(j:Int)+1:=by omega
 rw[hj1];unfold bn
 by_cases h1:a.f=s
 ·have h2:(a.l==x)=false:=by
   rw[beq_eq_false_iff_ne];exact fun h2=>h ⟨h1,h2⟩
  simp (maxSteps:=400000) -implicitDefEqProofs[Yo,f1060,hl,x0,i0,i1,he,hel,hj,hjn,hj0,hw,hp,h1,h2]
 ·have h2:(a.f==s)=false:=by rw[beq_eq_false_iff_ne];exact h1
  simp (maxSteps:=400000) -implicitDefEqProofs[Yo,f1060,hl,x0,i0,i1,he,hel,hj,hjn,hj0,hw,hp,h2]
theorem Yq (kk:Int)(ps:List Int)(sy st:Int)(aZ fin es:List D)(s:Int)(l8:List D)(acc:W)(j:Nat)(h:es.length=j) :
  Ex E1 Yo (J6 (aX kk ps sy st aZ fin es) s l8 acc j .u) (.exit 0,J6 (aX kk ps sy st aZ fin es) s l8 acc j (.d (.v (.bool false)))):=by
 refine Ex.of (n:=200) ?_;obtain⟨cs,c1,c2,cc,cb,cu,cp,cq,ec⟩:=acc.aM;unfold J6 kg aX bn;rw[ec];unfold wD;generalize LK .i64 ps=l9 at*;simp (maxSteps:=400000) -implicitDefEqProofs[Yo,f1060,h]
theorem Gm (kk:Int)(ps:List Int)(sy st:Int)(aZ fin:List D)(aB:List (Ar α))(hn:aB.length<=1000)(s x:Int)(r:List Int)(hr:r.length<=1000)(pl tm:α->α->α)(z:α)(F:Int->α)
  (hz:Ca E1 35 [.d (bz kk ps)] (.d (e z).d,none))
  (hF:∀ a ∈ aB,Ca E1 1060 [.d (u7 kk ps sy st aZ fin (aB.map (Ar.d e))),.d (.v (.int .i64 a.t)),.d (.s 1 (LK .i64 r))] (.d (e (F a.t)).d,none))
  (hst:∀ (j:Nat) (a:Ar α),aB[j]?=some a->Ca E1 21 [.d (bz kk ps),.d (e a.x).d,.d (e (F a.t)).d] (.d (e (tm a.x (F a.t))).d,none) /\
   Ca E1 19 [.d (bz kk ps),.d (e ((aB.take j).foldl (fun acc a=>if a.f=s/\a.l=x then pl acc (tm a.x (F a.t)) else acc) z)).d,.d (e (tm a.x (F a.t))).d] (.d (e (pl ((aB.take j).foldl (fun acc a=>if a.f=s/\a.l=x then pl acc (tm a.x (F a.t)) else acc) z) (tm a.x (F a.t)))).d,none)) :
  Ca E1 1060 [.d (u7 kk ps sy st aZ fin (aB.map (Ar.d e))),.d (.v (.int .i64 s)),.d (.s 1 (LK .i64 (x::r)))] (.d (e (aB.foldl (fun acc a=>if a.f=s/\a.l=x then pl acc (tm a.x (F a.t)) else acc) z)).d,none):=by
 obtain⟨r',hl,hr'⟩:=Ex.fold (E:=E1) (b:=Yo) aB (fun acc a=>if a.f=s/\a.l=x then pl acc (tm a.x (F a.t)) else acc) z (fun j acc st'=>st'=J6 (aX kk ps sy st aZ fin (aB.map (Ar.d e))) s (LK .i64 (x::r)) (e acc) j .u)
  (fun acc q=>q=(.exit 0,J6 (aX kk ps sy st aZ fin (aB.map (Ar.d e))) s (LK .i64 (x::r)) (e acc) aB.length (.d (.v (.bool false)))))
  (fun j a st' ha hst'=>by
   subst hst';refine⟨_,?_,rfl⟩
   by_cases h:a.f=s/\a.l=x
   ·obtain⟨rfl,rfl⟩:=h;obtain⟨g1,g2⟩:=hst j a ha;rw[if_pos ⟨rfl,rfl⟩];exact abP kk ps sy st aZ fin aB j a ha hn r hr _ _ _ _ (hF a (List.mem_of_getElem? ha)) g1 g2
   ·rw[if_neg h];exact Yp kk ps sy st aZ fin aB j a ha hn s x r _ h)
  (fun st' hst'=>by
   subst hst';exact⟨_,Yq kk ps sy st aZ fin _ s _ _ aB.length (by simp),by simp,rfl⟩)
  (st:=J6 (aX kk ps sy st aZ fin (aB.map (Ar.d e))) s (LK .i64 (x::r)) (e z) 0 .u) rfl
 subst hr';generalize aB.foldl (fun acc a=>if a.f=s/\a.l=x then pl acc (tm a.x (F a.t)) else acc) z=q at*;obtain⟨N,t⟩:=hz.get;generalize e q=q',e z=z' at*;clear hF hst hz;have hlen:(LK .i64 (x::r)).length=r.length+1:=by simp[LK]
 have hne:((r.length:Int)+1==0)=false:=by simp;omega
 obtain⟨qs',q1,q2,qc,qb,qu,qp,qq,eq⟩:=q'.aM;obtain⟨zs,z1,z2,zc,zb,zu,zp,zq,ez⟩:=z'.aM;have hA:Ex E1 f1060.body.l (st0 [.d (u7 kk ps sy st aZ fin (aB.map (Ar.d e))),.d (.v (.int .i64 s)),.d (.s 1 (LK .i64 (x::r))),.u,.u,.u,.u,.u,.u,.u] [])
   (.norm,(st0 [.u,.d (.v (.int .i64 s)),.d (.s 1 (LK .i64 (x::r))),.r (.loc 0) 0,.r (.loc 1) 0,.u,.u,.u,.u,.u] [aX kk ps sy st aZ fin (aB.map (Ar.d e)),bn (.d (.n 8))])):=by
  refine Ex.of (n:=60) ?_;unfold u7 aX bn;generalize LK .i64 ps=l9 at*;generalize LK .i64 (x::r)=l8 at*;simp -implicitDefEqProofs[f1060]
 have hB:Ex E1 f1060.body.r.l (st0 [.u,.d (.v (.int .i64 s)),.d (.s 1 (LK .i64 (x::r))),.r (.loc 0) 0,.r (.loc 1) 0,.u,.u,.u,.u,.u] [aX kk ps sy st aZ fin (aB.map (Ar.d e)),bn (.d (.n 8))])
   (.norm,(st0 [.u,.d (.v (.int .i64 s)),.d (.s 1 (LK .i64 (x::r))),.r (.loc 0) 0,.r (.loc 1) 0,.u,.u,.d (.v (.bool false)),.u,.u] [aX kk ps sy st aZ fin (aB.map (Ar.d e)),bn (.d (.n 8))])):=by
  refine Ex.of (n:=60) ?_;unfold aX bn;generalize LK .i64 ps=l9 at*;generalize LK .i64 (x::r)=l8 at*;simp -implicitDefEqProofs[f1060,hlen,hne]
 have hC:Ex E1 f1060.body.r.r.l (st0 [.u,.d (.v (.int .i64 s)),.d (.s 1 (LK .i64 (x::r))),.r (.loc 0) 0,.r (.loc 1) 0,.u,.u,.d (.v (.bool false)),.u,.u] [aX kk ps sy st aZ fin (aB.map (Ar.d e)),bn (.d (.n 8))])
   (.norm,(st0 [.u,.d (.v (.int .i64 s)),.d (.s 1 (LK .i64 (x::r))),.r (.loc 0) 0,.r (.loc 1) 0,.r (.loc 2) 0,.u,.u,.u,.u] [aX kk ps sy st aZ fin (aB.map (Ar.d e)),bn (.d (.n 8)),kg z'])):=by
  refine Ex.of (n:=N+60) ?_;unfold aX bn kg;rw[ez]at t ⊢;unfold bz wD at*;generalize LK .i64 ps=l9 at*;generalize LK .i64 (x::r)=l8 at*;simp -implicitDefEqProofs[f1060,t]
 have hD:Ex E1 f1060.body.r.r.r.l.l (st0 [.u,.d (.v (.int .i64 s)),.d (.s 1 (LK .i64 (x::r))),.r (.loc 0) 0,.r (.loc 1) 0,.r (.loc 2) 0,.u,.u,.u,.u] [aX kk ps sy st aZ fin (aB.map (Ar.d e)),bn (.d (.n 8)),kg z'])
   (.norm,J6 (aX kk ps sy st aZ fin (aB.map (Ar.d e))) s (LK .i64 (x::r)) z' 0 .u):=by
  refine Ex.of (n:=60) ?_;unfold J6 aX bn kg;rw[ez];unfold wD;generalize LK .i64 ps=l9 at*;generalize LK .i64 (x::r)=l8 at*;simp -implicitDefEqProofs[f1060]
 have hE:Ex E1 f1060.body.r.r.r.r (J6 (aX kk ps sy st aZ fin (aB.map (Ar.d e))) s (LK .i64 (x::r)) q' aB.length (.d (.v (.bool false))))
   (.ret,(st0 [.u,.u,.u,.u,.r (.loc 1) 0,.u,.u,.u,.u,.u] [aX kk ps sy st aZ fin (aB.map (Ar.d e)),kg q',kg q'])):=by
  refine Ex.of (n:=60) ?_;unfold J6 aX bn kg;rw[eq];unfold wD;generalize LK .i64 ps=l9 at*;generalize LK .i64 (x::r)=l8 at*;simp -implicitDefEqProofs[f1060]
 refine Ca.body (o:=.ret) (st1:=(st0 [.u,.u,.u,.u,.r (.loc 1) 0,.u,.u,.u,.u,.u] [aX kk ps sy st aZ fin (aB.map (Ar.d e)),kg q',kg q'])) rfl (k1060:E1.fn _=_) rfl ?_ (by intro id h;cases h) ?_
 ·show Ex E1 (.seq f1060.body.l (.seq f1060.body.r.l (.seq f1060.body.r.r.l (.seq (.seq f1060.body.r.r.r.l.l (.block 0 (.loop Yo))) f1060.body.r.r.r.r)))) _ _;exact hA.seq (hB.seq (hC.seq ((hD.seq hl.block).seq hE)))
 ·unfold kg aX;rw[eq];unfold wD;generalize LK .i64 ps=l9 at*;simp -implicitDefEqProofs[f1060]
end Fi.S
noncomputable section
namespace Fi.S
open Go Fi
set_option maxHeartbeats 8000000
set_option maxRecDepth 10000
section aeI
variable {α:Type} {e:α->W}
def wgL:aH:=f1022.body.r.r.l.r.bl.lp
def PZ (B:ae)(l8:List D)(acc:W)(j:Nat)(t:FV):St :=
 (st0 [.u,.d (.s 1 l8),.r (.loc 0) 0,.r (.loc 1) 0,.r (.loc 2) 0,.d (.v (.int .i64 j)),t] [B,bn (.d (.n 8)),kg acc])
theorem UU (kk:Int)(ps:List Int)(sy:Int)(n:Nat)(aZ fin es l8:List D)(j:Nat)(hj:j<n)(hn:n<=1000)(i0 acc y t' q':W)(hi:aZ[j]?=some i0.d)
  (hy:Ca E1 1060 [.d (u7 kk ps sy n aZ fin es),.d (.v (.int .i64 j)),.d (.s 1 l8)] (.d y.d,none))
  (ht:Ca E1 21 [.d (bz kk ps),.d i0.d,.d y.d] (.d t'.d,none)) (hp:Ca E1 19 [.d (bz kk ps),.d acc.d,.d t'.d] (.d q'.d,none)) :
  Ex E1 wgL (PZ (aX kk ps sy n aZ fin es) l8 acc j .u) (.norm,PZ (aX kk ps sy n aZ fin es) l8 q' (j+1) .u):=by
 obtain⟨K,hK,t2,t3,t4⟩:=(hy.j (ht.j hp.any)).at 0;have hil:j<aZ.length:=(bH hi)
 refine Ex.of (n:=K+300) ?_;obtain⟨ys,y1,y2,yc,yb,yu,yp,yq,ey⟩:=y.aM;obtain⟨ts,tl1,tl2,tc,tb,tu,tp,tq,et⟩:=t'.aM;obtain⟨qs',q1,q2,qc,qb,qu,qp,qq,eq⟩:=q'.aM;obtain⟨cs,c1,c2,cc,cb,cu,cp,cq,ec⟩:=acc.aM;obtain⟨is,a1,a2,ic,ib,iu,ip,iq,ei⟩:=i0.aM;unfold PZ kg;simp only[ei,ey,et,eq,ec]at*;clear hy ht hp ey et eq ei ec;unfold aX u7 bz wD at*;generalize LK .i64 ps=l9 at*;have i1:=idx hi;have hjn:(j:Int)<(n:Int):=by omega
 have hj0:(0:Int)<=(j:Int):=by omega
 have hw:ah .i64 ((j:Int)+1)=(j:Int)+1:=wrap_i64 (by omega);have hj1:((j+1:Nat):Int)=(j:Int)+1:=by omega
 rw[hj1];unfold bn;simp (maxSteps:=400000) -implicitDefEqProofs[wgL,f1022,t2,t3,t4,i1,hi,hil,hjn,hj0,hw]
theorem Yr (kk:Int)(ps:List Int)(sy:Int)(n:Nat)(aZ fin es l8:List D)(acc:W) :
  Ex E1 wgL (PZ (aX kk ps sy n aZ fin es) l8 acc n .u) (.exit 0,PZ (aX kk ps sy n aZ fin es) l8 acc n (.d (.v (.bool false)))):=by
 refine Ex.of (n:=200) ?_;obtain⟨cs,c1,c2,cc,cb,cu,cp,cq,ec⟩:=acc.aM;unfold PZ kg aX bn;rw[ec];unfold wD;generalize LK .i64 ps=l9 at*;simp (maxSteps:=400000) -implicitDefEqProofs[wgL,f1022]
theorem UW (kk:Int)(ps:List Int)(sy:Int)(aZ:List α)(fin es l8:List D)(hn:aZ.length<=1000)(pl tm:α->α->α)(z:α)(F:Int->α)
  (hz:Ca E1 35 [.d (bz kk ps)] (.d (e z).d,none))
  (hF:∀ j:Nat,j<aZ.length->Ca E1 1060 [.d (u7 kk ps sy aZ.length (aZ.map fun x=>(e x).d) fin es),.d (.v (.int .i64 j)),.d (.s 1 l8)] (.d (e (F j)).d,none))
  (hst:∀ j:Nat,j<aZ.length->Ca E1 21 [.d (bz kk ps),.d (e (aZ.getD j z)).d,.d (e (F j)).d] (.d (e (tm (aZ.getD j z) (F j))).d,none) /\
   Ca E1 19 [.d (bz kk ps),.d (e ((List.range j).foldl (fun acc i=>pl acc (tm (aZ.getD i z) (F i))) z)).d,.d (e (tm (aZ.getD j z) (F j))).d] (.d (e (pl ((List.range j).foldl (fun acc i=>pl acc (tm (aZ.getD i z) (F i))) z) (tm (aZ.getD j z) (F j)))).d,none)) :
  Ca E1 1022 [.d (u7 kk ps sy aZ.length (aZ.map fun x=>(e x).d) fin es),.d (.s 1 l8)] (.d (e ((List.range aZ.length).foldl (fun acc i=>pl acc (tm (aZ.getD i z) (F i))) z)).d,none):=by
 obtain⟨r',hl,hr'⟩:=Ex.fold (E:=E1) (b:=wgL) (List.range aZ.length) (fun acc i=>pl acc (tm (aZ.getD i z) (F i))) z (fun j acc st'=>st'=PZ (aX kk ps sy aZ.length (aZ.map fun x=>(e x).d) fin es) l8 (e acc) j .u)
  (fun acc q=>q=(.exit 0,PZ (aX kk ps sy aZ.length (aZ.map fun x=>(e x).d) fin es) l8 (e acc) aZ.length (.d (.v (.bool false)))))
  (fun j a st' ha hst'=>by
   have hj:j<aZ.length:=by simpa using(bH ha)
   rw[List.getElem?_range hj]at ha;cases ha;subst hst';refine⟨_,?_,rfl⟩;obtain⟨g1,g2⟩:=hst j hj;have htk:(List.range aZ.length).take j=List.range j:=by rw[List.take_range,Nat.min_eq_left (by omega)]
   rw[htk];refine UU kk ps sy aZ.length _ fin es l8 j hj hn _ _ _ _ _ ?_ (hF j hj) g1 g2;rw[List.getElem?_map,List.getD_eq_getElem?_getD,List.getElem?_eq_getElem hj];rfl)
  (fun st' hst'=>by
   subst hst';simp only[List.length_range];exact⟨_,Yr kk ps sy _ _ fin es l8 _,by simp,rfl⟩)
  (st:=PZ (aX kk ps sy aZ.length (aZ.map fun x=>(e x).d) fin es) l8 (e z) 0 .u) rfl
 subst hr';generalize (List.range aZ.length).foldl (fun acc i=>pl acc (tm (aZ.getD i z) (F i))) z=q at*;obtain⟨N,t⟩:=hz.get;generalize e q=q',e z=z' at*;clear hF hst hz;generalize aZ.map (fun x=>(e x).d)=is at*;generalize aZ.length=n at*;obtain⟨qs',q1,q2,qc,qb,qu,qp,qq,eq⟩:=q'.aM;obtain⟨zs,z1,z2,zc,zb,zu,zp,zq,ez⟩:=z'.aM;have hA:Ex E1 f1022.body.l (st0 [.d (u7 kk ps sy n is fin es),.d (.s 1 l8),.u,.u,.u,.u,.u] [])
   (.norm,(st0 [.u,.d (.s 1 l8),.r (.loc 0) 0,.r (.loc 1) 0,.u,.u,.u] [aX kk ps sy n is fin es,bn (.d (.n 8))])):=by
  refine Ex.of (n:=60) ?_;unfold u7 aX bn;generalize LK .i64 ps=l9 at*;simp -implicitDefEqProofs[f1022]
 have hC:Ex E1 f1022.body.r.l (st0 [.u,.d (.s 1 l8),.r (.loc 0) 0,.r (.loc 1) 0,.u,.u,.u] [aX kk ps sy n is fin es,bn (.d (.n 8))])
   (.norm,(st0 [.u,.d (.s 1 l8),.r (.loc 0) 0,.r (.loc 1) 0,.r (.loc 2) 0,.u,.u] [aX kk ps sy n is fin es,bn (.d (.n 8)),kg z'])):=by
  refine Ex.of (n:=N+60) ?_;unfold aX bn kg;rw[ez]at t ⊢;unfold bz wD at*;generalize LK .i64 ps=l9 at*;simp -implicitDefEqProofs[f1022,t]
 have hD:Ex E1 f1022.body.r.r.l.l (st0 [.u,.d (.s 1 l8),.r (.loc 0) 0,.r (.loc 1) 0,.r (.loc 2) 0,.u,.u] [aX kk ps sy n is fin es,bn (.d (.n 8)),kg z'])
   (.norm,PZ (aX kk ps sy n is fin es) l8 z' 0 .u):=by
  refine Ex.of (n:=60) ?_;unfold PZ aX bn kg;rw[ez];unfold wD;generalize LK .i64 ps=l9 at*;simp -implicitDefEqProofs[f1022]
 have hE:Ex E1 f1022.body.r.r.r (PZ (aX kk ps sy n is fin es) l8 q' n (.d (.v (.bool false))))
   (.ret,(st0 [.u,.u,.u,.r (.loc 1) 0,.u,.u,.u] [aX kk ps sy n is fin es,kg q',kg q'])):=by
  refine Ex.of (n:=60) ?_;unfold PZ aX bn kg;rw[eq];unfold wD;generalize LK .i64 ps=l9 at*;simp -implicitDefEqProofs[f1022]
 refine Ca.body (o:=.ret) (st1:=(st0 [.u,.u,.u,.r (.loc 1) 0,.u,.u,.u] [aX kk ps sy n is fin es,kg q',kg q'])) rfl (k1022:E1.fn _=_) rfl ?_ (by intro id h;cases h) ?_
 ·show Ex E1 (.seq f1022.body.l (.seq f1022.body.r.l (.seq (.seq f1022.body.r.r.l.l (.block 0 (.loop wgL))) f1022.body.r.r.r))) _ _;exact hA.seq (hC.seq ((hD.seq hl.block).seq hE))
 ·unfold kg aX;rw[eq];unfold wD;generalize LK .i64 ps=l9 at*;simp -implicitDefEqProofs[f1022]
end aeI
def bN:Nat->Nat
 | 0=>640
 | j+1=>10*(20*(640*bN j))
theorem UX {j:Nat}(h:j<=4):bN j<=bN 4:=by
 match j,h with
 | 0,_=>decide
 | 1,_=>decide
 | 2,_=>decide
 | 3,_=>decide
 | 4,_=>exact Nat.le_refl _
theorem NJ {j:Nat}(h:j<=6):6 ^ j<=46656:=Nat.le_trans (Nat.pow_le_pow_right (by omega) h) (by decide)
section vals
variable {kk:Int} {ps:List Int}
def Wt (kk:Int)(ps:List Int)(x:List Sv):Prop:=gH 3 20 (dx kk ps) x/\tJ 6 640 x
theorem Wt.gd {x:List Sv}(h:Wt kk ps x):u_ (dx kk ps) x:=⟨3,20,by omega,by omega,h.1⟩
theorem rC (hv:aI kk ps=true){β:Type}{D T:Nat}(c:β->Prop)[DecidablePred c](h:β->List Sv):∀ (l:List β) (n:Nat) (acc:List Sv),(∀ a ∈ l,u_ (dx kk ps) (h a)/\tJ D T (h a))->u_ (dx kk ps) acc->tJ D (n*T) acc ->
  u_ (dx kk ps) (l.foldl (fun acc a=>if c a then bL (dx kk ps) acc (h a) else acc) acc)/\tJ D ((n+l.length)*T) (l.foldl (fun acc a=>if c a then bL (dx kk ps) acc (h a) else acc) acc)
 | [],n,acc,_,hg,hf=>⟨hg,hf⟩
 | a::l,n,acc,ha,hg,hf=>by
  have A:=Jm (aN hv);obtain⟨h1,h2⟩:=ha a (by simp);have ha':∀ a ∈ l,u_ (dx kk ps) (h a)/\tJ D T (h a):=fun b hb=>ha b (by simp[hb])
  have e1:n+(a::l).length=(n+1)+l.length:=by simp;omega
  rw[List.foldl_cons,e1]
  by_cases hc:c a
  ·rw[if_pos hc];refine rC hv c h l (n+1) _ ha' (A.pp hg h1) ?_;have:=Cu (aN hv) hg h1 hf h2;rw[Nat.add_mul,Nat.one_mul];exact this
  ·rw[if_neg hc];exact rC hv c h l (n+1) _ ha' hg (hf.mono (Nat.mul_le_mul_right _ (by omega)))
theorem EH (hv:aI kk ps=true){D N:Nat}(hD:0<D)(hD2:D<4294967296 ^ 3)(hN:N<4294967296 ^ 3){x y:List Sv}(hx:Wt kk ps x)(hy:u_ (dx kk ps) y)(fy:tJ D N y) :
  Ca E1 21 [.d (bz kk ps),.d (bR kk x).d,.d (bR kk y).d] (.d (bR kk (bq x y)).d,none) :=
 PU hv (S:=3) (M:=20) (N:=216) (by omega) (by omega) (by omega) hx.1 (wL (aN hv) hy fy hD hD2 hN)
theorem Jo (hv:aI kk ps=true){D N M:Nat}(hD:0<D)(hD2:D<4294967296 ^ 3)(hN:N<4294967296 ^ 3)(hM:M<4294967296 ^ 3){x y:List Sv}(hx:u_ (dx kk ps) x)(fx:tJ D N x)(hy:u_ (dx kk ps) y)(fy:tJ D M y) :
  Ca E1 19 [.d (bz kk ps),.d (bR kk x).d,.d (bR kk y).d] (.d (bR kk (bL (dx kk ps) x y)).d,none) :=
 I6 hv (S:=3) (M:=216) (by omega) (by omega) (wL (aN hv) hx fx hD hD2 hN) (wL (aN hv) hy fy hD hD2 hM)
theorem Cy (hv:aI kk ps=true){fin:List (List Sv)}{aB:List (Ar (List Sv))}(hf:∀ x ∈ fin,Wt kk ps x)(ha:∀ a ∈ aB,Wt kk ps a.x)(hn:aB.length<=10):∀ (w:List Int) (s:Int),
  u_ (dx kk ps) (gV (bL (dx kk ps)) bq (bg kk ps) fin aB w s)/\tJ (6 ^ (w.length+1)) (bN w.length) (gV (bL (dx kk ps)) bq (bg kk ps) fin aB w s)
 | [],s=>by
  have A:=Jm (aN hv);show u_ _ (fin.getD s.toNat (bg kk ps))/\tJ 6 640 (fin.getD s.toNat (bg kk ps));rw[List.getD_eq_getElem?_getD];cases h:fin[s.toNat]? with
  | none=>exact⟨A.pz,nW (aN hv) _ _⟩
  | some x=>exact⟨(hf x (List.mem_of_getElem? h)).gd,(hf x (List.mem_of_getElem? h)).2⟩
 | x::r,s=>by
  have A:=Jm (aN hv);have ih:=Cy hv hf ha hn r;have hz:tJ (6 ^ (r.length+1+1)) (0*(20*(640*bN r.length))) (bg kk ps):=nW (aN hv) _ _;obtain⟨h1,h2⟩:=rC hv (D:=6 ^ (r.length+1+1)) (T:=20*(640*bN r.length)) (fun a:Ar (List Sv)=>a.f=s/\a.l=x) (fun a=>bq a.x (gV (bL (dx kk ps)) bq (bg kk ps) fin aB r a.t)) aB 0 (bg kk ps) (fun a hm=>by
   obtain⟨g1,g2⟩:=ih a.t;refine⟨A.pt (ha a hm).gd g1,?_⟩;have:=yj (aN hv) (M:=20) (by omega) (ha a hm).1 g1 (ha a hm).2 g2;rw[Nat.pow_succ 6 (r.length+1),Nat.mul_comm];exact this) A.pz hz
  refine⟨h1,h2.mono ?_⟩;show(0+aB.length)*_<=10*_;exact Nat.mul_le_mul_right _ (by omega)
theorem NK (hv:aI kk ps=true)(sy st:Int)(aZ:List D){fin:List (List Sv)}{aB:List (Ar (List Sv))}(hf:∀ x ∈ fin,Wt kk ps x)(ha:∀ a ∈ aB,Wt kk ps a.x)(hn:aB.length<=10)(hr:∀ a ∈ aB,0<=a.t/\a.t<fin.length):∀ (w:List Int),w.length<=4->∀ s:Int,0<=s->s<fin.length ->
  Ca E1 1060 [.d (u7 kk ps sy st aZ (fin.map fun x=>(bR kk x).d) (aB.map (Ar.d (bR kk)))),.d (.v (.int .i64 s)),.d (.s 1 (LK .i64 w))] (.d (bR kk (gV (bL (dx kk ps)) bq (bg kk ps) fin aB w s)).d,none)
 | [],_,s,h0,h1=>by
  have hs:s.toNat<fin.length:=by omega
  have:=UL kk ps sy st aZ (fin.map fun x=>(bR kk x).d) (aB.map (Ar.d (bR kk))) s.toNat (bR kk (gV (bL (dx kk ps)) bq (bg kk ps) fin aB [] s)) (by
   show _=some (bR kk (fin.getD s.toNat (bg kk ps))).d;rw[List.getElem?_map,List.getD_eq_getElem?_getD,List.getElem?_eq_getElem hs];rfl)
  rw[show((s.toNat:Nat):Int)=s by omega]at this;exact this
 | x::r,hw,s,h0,h1=>by
  simp only[List.length_cons]at hw;have A:=Jm (aN hv);have ih:=NK hv sy st aZ hf ha hn hr r (by omega);have hval:=Cy hv hf ha hn r;have hb:=UX (show r.length<=4 by omega);have hb2:=UX (show r.length+1<=4 by omega);have hd:=NJ (show r.length+1<=6 by omega);have hd2:=NJ (show r.length+1+1<=6 by omega);have hB:bN 4<4294967296 ^ 3:=by decide
  have hp1:0<6 ^ (r.length+1):=Nat.pow_pos (by omega);have hp2:0<6 ^ (r.length+1+1):=Nat.pow_pos (by omega);have hT:10*(20*(640*bN r.length))<=bN 4:=hb2;have Cz:∀ a ∈ aB,u_ (dx kk ps) (bq a.x (gV (bL (dx kk ps)) bq (bg kk ps) fin aB r a.t))/\tJ (6 ^ (r.length+1+1)) (20*(640*bN r.length)) (bq a.x (gV (bL (dx kk ps)) bq (bg kk ps) fin aB r a.t)):=fun a hm=>by
   obtain⟨g1,g2⟩:=hval a.t;refine⟨A.pt (ha a hm).gd g1,?_⟩;have:=yj (aN hv) (M:=20) (by omega) (ha a hm).1 g1 (ha a hm).2 g2;rw[Nat.pow_succ 6 (r.length+1),Nat.mul_comm];exact this
  refine Gm kk ps sy st aZ _ aB (by omega) s x r (by omega) (bL (dx kk ps)) bq (bg kk ps) (gV (bL (dx kk ps)) bq (bg kk ps) fin aB r) (z8 hv) (fun a hm=>ih a.t (hr a hm).1 (hr a hm).2) (fun j a hj => ?_);have hm:=List.mem_of_getElem? hj;obtain⟨g1,g2⟩:=hval a.t;refine⟨EH hv hp1 (by omega) (by omega) (ha a hm) g1 g2,?_⟩;have hz:tJ (6 ^ (r.length+1+1)) (0*(20*(640*bN r.length))) (bg kk ps):=nW (aN hv) _ _;obtain⟨k1,k2⟩:=rC hv (D:=6 ^ (r.length+1+1)) (T:=20*(640*bN r.length)) (fun a:Ar (List Sv)=>a.f=s/\a.l=x) (fun a=>bq a.x (gV (bL (dx kk ps)) bq (bg kk ps) fin aB r a.t)) (aB.take j) 0 (bg kk ps) (fun b hb=>Cz b (List.mem_of_mem_take hb)) A.pz hz;have hjl:(aB.take j).length<=10:=by rw[List.length_take];omega
  have hk:(0+(aB.take j).length)*(20*(640*bN r.length))<=10*(20*(640*bN r.length)):=Nat.mul_le_mul_right _ (by omega);exact Jo hv hp2 (by omega) (by omega) (by omega) k1 k2 (Cz a hm).1 (Cz a hm).2
theorem EI (hv:aI kk ps=true)(sy:Int){aZ fin:List (List Sv)}{aB:List (Ar (List Sv))}(hi:∀ x ∈ aZ,Wt kk ps x)(hf:∀ x ∈ fin,Wt kk ps x)(ha:∀ a ∈ aB,Wt kk ps a.x)(hn:aB.length<=10)(hl:aZ.length=fin.length)(h4:fin.length<=4)
  (hr:∀ a ∈ aB,0<=a.t/\a.t<fin.length) (w:List Int) (hw:w.length<=4) :
  Ca E1 1022 [.d (Cb kk ps sy aZ.length (aZ.map (bR kk)) (fin.map (bR kk)) (bR kk) aB),.d (.s 1 (LK .i64 w))] (.d (bR kk (yg (bL (dx kk ps)) bq (bg kk ps) aZ fin aB w)).d,none) /\
   gH 3 216 (dx kk ps) (yg (bL (dx kk ps)) bq (bg kk ps) aZ fin aB w):=by
 have A:=Jm (aN hv);have hval:=Cy hv hf ha hn w;have hb:=UX hw;have hd:=NJ (show w.length+1<=6 by omega);have hd2:=NJ (show w.length+1+1<=6 by omega);have hB:4*(20*(640*bN 4))<4294967296 ^ 3:=by decide
 have hp1:0<6 ^ (w.length+1):=Nat.pow_pos (by omega);have hp2:0<6 ^ (w.length+1+1):=Nat.pow_pos (by omega);have hg:∀ j:Nat,Wt kk ps (aZ.getD j (bg kk ps)):=fun j=>by
  rw[List.getD_eq_getElem?_getD];cases h:aZ[j]? with
  | none=>exact⟨jY (by omega) (aN hv),nW (aN hv) _ _⟩
  | some x=>exact hi x (List.mem_of_getElem? h)
 have Cz:∀ j:Nat,u_ (dx kk ps) (bq (aZ.getD j (bg kk ps)) (gV (bL (dx kk ps)) bq (bg kk ps) fin aB w j))/\tJ (6 ^ (w.length+1+1)) (20*(640*bN w.length)) (bq (aZ.getD j (bg kk ps)) (gV (bL (dx kk ps)) bq (bg kk ps) fin aB w j)):=fun j=>by
  obtain⟨g1,g2⟩:=hval j;refine⟨A.pt (hg j).gd g1,?_⟩;have:=yj (aN hv) (M:=20) (by omega) (hg j).1 g1 (hg j).2 g2;rw[Nat.pow_succ 6 (w.length+1),Nat.mul_comm];exact this
 have hz:tJ (6 ^ (w.length+1+1)) (0*(20*(640*bN w.length))) (bg kk ps):=nW (aN hv) _ _;have hacc:∀ j:Nat,j<=4->u_ (dx kk ps) ((List.range j).foldl (fun acc i=>bL (dx kk ps) acc (bq (aZ.getD i (bg kk ps)) (gV (bL (dx kk ps)) bq (bg kk ps) fin aB w i))) (bg kk ps)) /\
   tJ (6 ^ (w.length+1+1)) (4*(20*(640*bN w.length))) ((List.range j).foldl (fun acc i=>bL (dx kk ps) acc (bq (aZ.getD i (bg kk ps)) (gV (bL (dx kk ps)) bq (bg kk ps) fin aB w i))) (bg kk ps)):=fun j hj=>by
  have:=rC hv (D:=6 ^ (w.length+1+1)) (T:=20*(640*bN w.length)) (fun _:Nat=>True) (fun i=>bq (aZ.getD i (bg kk ps)) (gV (bL (dx kk ps)) bq (bg kk ps) fin aB w i)) (List.range j) 0 (bg kk ps) (fun b _=>Cz b) A.pz hz;simp only[if_true,List.length_range]at this;exact⟨this.1,this.2.mono (Nat.mul_le_mul_right _ (by omega))⟩
 refine⟨?_,wL (aN hv) (hacc aZ.length (by omega)).1 (hacc aZ.length (by omega)).2 hp2 (by omega) (by omega)⟩;have:=UW (e:=bR kk) kk ps sy aZ (fin.map fun x=>(bR kk x).d) (aB.map (Ar.d (bR kk))) (LK .i64 w) (by omega) (bL (dx kk ps)) bq (bg kk ps) (gV (bL (dx kk ps)) bq (bg kk ps) fin aB w) (z8 hv)
  (fun j hj=>NK hv sy _ _ hf ha hn hr w hw j (by omega) (by omega))
  (fun j hj=>⟨EH hv hp1 (by omega) (by omega) (hg j) (hval j).1 (hval j).2,Jo hv hp2 (by omega) (by omega) (by omega) (hacc j (by omega)).1 (hacc j (by omega)).2 (Cz j).1 (Cz j).2⟩)
 have e1:(aZ.map (bR kk)).map W.d=aZ.map fun x=>(bR kk x).d:=by rw[List.map_map];rfl
 have e2:(fin.map (bR kk)).map W.d=fin.map fun x=>(bR kk x).d:=by rw[List.map_map];rfl
 unfold Cb;rw[e1,e2];exact this
end vals
end Fi.S
noncomputable section
namespace Fi.S
open Go Fi
set_option maxHeartbeats 8000000
set_option maxRecDepth 10000
def nX (sy:Int)(l:List Int):List Int:=(l.take 4).map fun x=>1+x % sy
theorem EJ (sy:Int)(l:List Int):(nX sy l).length<=4:=by
 unfold nX;rw[List.length_map,List.length_take];omega
theorem UY (sy:Int)(hsy:2<=sy/\sy<=3)(l:List Int)(hl:∀ x ∈ l,fu x):Ca E1 1018 [.d (.s 1 (LK .i64 l)),.d (.v (.int .i64 sy)),.d (.v (.int .i64 4))] (.d (.s 1 (LK .i64 (nX sy l))),none):=by
 have md:∀ x ∈ l,Ca E1 46 [.d (.v (.int .i64 x)),.d (.v (.int .i64 sy))] (.d (.v (.int .i64 (x % sy))),none):=fun x hx=>Ca.fG (iN x sy (hl x hx) (by omega) (by omega))
 have wa:∀ x:Int,ah .i64 (1+x % sy)=1+x % sy:=fun x=>wrap_i64 (by
  have h1:=Int.emod_nonneg x (show sy≠0 by omega);have h2:=Int.emod_lt_of_pos x (show 0<sy by omega);omega)
 have wr4:ah .i64 4=4:=wrap_i64 (by omega)
 match l,md with
 | [],_ =>
  refine Ca.bO (n:=200) ?_;rw[ak rfl (k1018:E1.fn _=_) rfl];simp -implicitDefEqProofs[aC,f1018,nX,LK]
 | [a],md =>
  obtain⟨N,t⟩:=(md a (by simp)).any;replace t:=t N (Nat.le_refl _);refine Ca.bO (n:=N+200) ?_;rw[ak rfl (k1018:E1.fn _=_) rfl];simp -implicitDefEqProofs[aC,f1018,nX,LK,t,wa,Np,most,ae.view]
 | [a,b],md =>
  obtain⟨K,hK,t1,t2⟩:=((md a (by simp)).j ((md b (by simp)).any)).at 0;refine Ca.bO (n:=K+200) ?_;rw[ak rfl (k1018:E1.fn _=_) rfl];simp -implicitDefEqProofs[aC,f1018,nX,LK,t1,t2,wa,Np,wr2,most,ae.view]
 | [a,b,c],md =>
  obtain⟨K,hK,t1,t2,t3⟩:=((md a (by simp)).j ((md b (by simp)).j ((md c (by simp)).any))).at 0;refine Ca.bO (n:=K+200) ?_;rw[ak rfl (k1018:E1.fn _=_) rfl];simp -implicitDefEqProofs[aC,f1018,nX,LK,t1,t2,t3,wa,Np,wr2,wr3,most,ae.view]
 | a::b::c::d::r,md =>
  obtain⟨K,hK,t1,t2,t3,t4⟩:=((md a (by simp)).j ((md b (by simp)).j ((md c (by simp)).j ((md d (by simp)).any)))).at 0;refine Ca.bO (n:=K+200) ?_;rw[ak rfl (k1018:E1.fn _=_) rfl];have e:LK .i64 (nX sy (a::b::c::d::r))=[.v (.int .i64 (1+a % sy)),.v (.int .i64 (1+b % sy)),.v (.int .i64 (1+c % sy)),.v (.int .i64 (1+d % sy))]:=by simp[LK,nX]
  rw[e];have x0:(LK .i64 (a::b::c::d::r))[0]?=some (.v (.int .i64 a)):=rfl;have x1:(LK .i64 (a::b::c::d::r))[1]?=some (.v (.int .i64 b)):=rfl;have x2:(LK .i64 (a::b::c::d::r))[2]?=some (.v (.int .i64 c)):=rfl;have x3:(LK .i64 (a::b::c::d::r))[3]?=some (.v (.int .i64 d)):=rfl;have hlen:(LK .i64 (a::b::c::d::r)).length=(a::b::c::d::r).length:=by simp[LK]
  have h3:4<=(a::b::c::d::r).length:=by simp
  generalize (a::b::c::d::r).length=n at*;generalize LK .i64 (a::b::c::d::r)=xs at*;have i0:=idx x0;have i1:=idx x1;have i2:=idx x2;have i3:=idx x3;have n0:0<n:=by omega
  have n1:1<n:=by omega
  have n2:2<n:=by omega
  have n3:3<n:=by omega
  have m0:(0:Int)<n:=by omega
  have m1:(1:Int)<n:=by omega
  have m2:(2:Int)<n:=by omega
  have m3:(3:Int)<n:=by omega
  by_cases h:(4:Int)<n
  ·simp (maxSteps:=400000) -implicitDefEqProofs[aC,f1018,t1,t2,t3,t4,wa,Np,wr2,wr3,wr4,most,ae.view,x0,x1,x2,x3,i0,i1,i2,i3,hlen,n0,n1,n2,n3,m0,m1,m2,m3,h]
  ·simp (maxSteps:=400000) -implicitDefEqProofs[aC,f1018,t1,t2,t3,t4,wa,Np,wr2,wr3,wr4,most,ae.view,x0,x1,x2,x3,i0,i1,i2,i3,hlen,n0,n1,n2,n3,m0,m1,m2,m3,h]
theorem P5 {kk:Int}{ps:List Int}(hv:aI kk ps=true)(v:Int):gH 3 20 (dx kk ps) (q8 kk ps v):=by
 have h:=ED hv v;have hf:=Cw hv v;refine⟨h.1,fun i k x hk hx => ?_⟩;have g1:=h.2 i k x hk hx;have g2:=L9 (T:=3) (aN hv k (List.mem_of_getElem? hk)) g1 (hf x (List.mem_of_getElem? hx)) (by omega) (by omega) (by omega);cases x with
 | q a=>exact⟨g2.1,g2.2⟩
 | c i n=>exact g2
 | s u=>exact g2
 | p l=>exact⟨g2.1,g2.2.1,Nat.le_trans g1.2.2 (by omega)⟩
def ym (kk:Int)(ps:List Int)(l:List Int)(i one:Nat):List Sv :=
 match l[i]? with
 | some v=>q8 kk ps v
 | none=>if i=one then EE kk ps else bg kk ps
theorem UZ {kk:Int}{ps:List Int}(hv:aI kk ps=true)(l:List Int)(hl:∀ x ∈ l,fu x)(i one:Nat):Ca E1 1075 [.d (bz kk ps),.d (.s 1 (LK .i64 l)),.d (.v (.int .i64 i)),.d (.v (.int .i64 one))] (.d (bR kk (ym kk ps l i one)).d,none):=by
 have n1:(LK .i64 l).length=l.length:=by simp[LK]
 have i0:(0:Int)<=(i:Int):=by omega
 unfold ym;cases h:l[i]? with
 | some v =>
  have hi:=(bH h)
  have e1:(LK .i64 l)[i]?=some (.v (.int .i64 v)):=by simp[LK,h]
  have hic:(i:Int)<(l.length:Int):=by omega
  obtain⟨N,t⟩:=(IY hv v (hl v (List.mem_of_getElem? h))).get;show Ca E1 1075 _ (.d (bR kk (q8 kk ps v)).d,none);generalize bR kk (q8 kk ps v)=w at*;refine Ca.bO (n:=N+100) ?_;rw[ak rfl (k1075:E1.fn _=_) rfl];obtain⟨ws,l1,l2,c,b,u,p,q,ew⟩:=w.aM;rw[ew]at t ⊢;unfold bz wD at*;generalize LK .i64 ps=l9,LK .i64 l=l8 at*;have i1:=idx e1;simp -implicitDefEqProofs[f1075,t,n1,e1,i1,hi,hic,i0]
 | none =>
  have hi:l.length<=i:=by simpa using h
  have hic:¬ (i:Int)<(l.length:Int):=by omega
  show Ca E1 1075 _ (.d (bR kk (if i=one then EE kk ps else bg kk ps)).d,none)
  by_cases ho:i=one
  ·rw[if_pos ho];subst ho;obtain⟨N,t⟩:=(XN hv).2.get;rw[show(dx kk ps).map nS=EE kk ps from rfl]at t;generalize bR kk (EE kk ps)=w at*;refine Ca.bO (n:=N+100) ?_;rw[ak rfl (k1075:E1.fn _=_) rfl];obtain⟨ws,l1,l2,c,b,u,p,q,ew⟩:=w.aM;rw[ew]at t ⊢;unfold bz wD at*;generalize LK .i64 ps=l9,LK .i64 l=l8 at*;simp -implicitDefEqProofs[f1075,t,n1,hic]
  ·rw[if_neg ho];obtain⟨N,t⟩:=(z8 hv).get;rw[show(dx kk ps).map dC=bg kk ps from rfl]at t;have hne:((i:Int)==(one:Int))=false:=by simp;omega
   generalize bR kk (bg kk ps)=w at*;refine Ca.bO (n:=N+100) ?_;rw[ak rfl (k1075:E1.fn _=_) rfl];obtain⟨ws,l1,l2,c,b,u,p,q,ew⟩:=w.aM;rw[ew]at t ⊢;unfold bz wD at*;generalize LK .i64 ps=l9,LK .i64 l=l8 at*;simp -implicitDefEqProofs[f1075,t,n1,hic,hne]
theorem U0 {kk:Int}{ps:List Int}(hv:aI kk ps=true)(l:List Int)(i one:Nat):Wt kk ps (ym kk ps l i one):=by
 unfold ym;cases l[i]? with
 | some v=>exact⟨P5 hv v,(Cw hv v).mono (by omega)⟩
 | none =>
  show Wt kk ps (if i=one then EE kk ps else bg kk ps);split
  ·exact⟨IU (by omega) (by omega) (aN hv),Yn (aN hv) (by omega)⟩
  ·exact⟨jY (by omega) (aN hv),nW (aN hv) _ _⟩
end Fi.S
noncomputable section
namespace Fi.S
open Go Fi
set_option maxHeartbeats 8000000
set_option maxRecDepth 10000
def moD (st:Int)(li lf la:List Int):D:=.a [.v (.int .i64 st),.s 1 (LK .i64 li),.s 1 (LK .i64 lf),.s 1 (LK .i64 la),.v (.bool false)]
def dG (st:Int)(li lf la:List Int):ae:=.box [.d (.v (.int .i64 st)),.d (.s 1 (LK .i64 li)),.d (.s 1 (LK .i64 lf)),.d (.s 1 (LK .i64 la)),.d (.v (.bool false))]
def iD (kk:Int)(ps:List Int):ae:=.box [.d (.v (.int .i64 kk)),.d (.s 1 (LK .i64 ps))]
def Gn:ae:=.box [.d (.v (.int .i64 0)),.d (.n 1),.d (.v (.int .i64 0)),.d (.v (.int .i64 0)),.d (.n 8),.d (.n 8),.d (.n 11)]
def L_ (kk:Int)(ps:List Int)(sy:Int)(n:Nat)(x y w:FV):ae:=.box [.d (.v (.int .i64 kk)),.d (.s 1 (LK .i64 ps)),.d (.v (.int .i64 sy)),.d (.v (.int .i64 n)),x,y,w]
def P6 (sy:Int)(n:Nat)(L:List ae)(j:Nat)(t:FV):St :=
 (st0 [.u,.u,.d (.v (.int .i64 sy)),.u,.r (.loc 0) 0,.r (.loc 1) 0,.r (.loc 2) 0,.d (.v (.int .i64 n)),.r (.loc 3) 0,.d (.v (.int .i64 j)),.u,.u,t,.u,.u] L)
def mL1:aH:=f1028.body.r.r.r.l.r.bl.lp
def mH (M R:ae)(kk:Int)(ps:List Int)(sy:Int)(n:Nat)(is fs:List D):List ae :=
 if is.length=0 then [M,R,Gn,L_ kk ps sy n (.d (.n 8)) (.d (.n 8)) (.d (.n 11))]
 else [M,R,Gn,L_ kk ps sy n (.ls (.loc 4) (is.length-1) 8 0 is.length) (.ls (.loc 5) (is.length-1) 8 0 is.length) (.d (.n 11)),.row (is.length-1) 8 is,.row (is.length-1) 8 fs]
theorem U1 (st:Int)(li lf la:List Int)(kk:Int)(ps:List Int)(sy:Int)(n j:Nat)(hj:j<n)(hn:n<=4)(is fs:List D)(hi:is.length=j)(hf:fs.length=j)(w v:W)
  (h1:Ca E1 1075 [.d (bz kk ps),.d (.s 1 (LK .i64 li)),.d (.v (.int .i64 j)),.d (.v (.int .i64 0))] (.d w.d,none))
  (h2:Ca E1 1075 [.d (bz kk ps),.d (.s 1 (LK .i64 lf)),.d (.v (.int .i64 j)),.d (.v (.int .i64 ((n:Int)-1)))] (.d v.d,none)) :
  Ex E1 mL1 (P6 sy n (mH (dG st li lf la) (iD kk ps) kk ps sy n is fs) j .u) (.norm,P6 sy n (mH (dG st li lf la) (iD kk ps) kk ps sy n (is++[w.d]) (fs++[v.d])) (j+1) .u):=by
 obtain⟨K,hK,t1,t2⟩:=(h1.j h2.any).at 0;have hjn:(j:Int)<(n:Int):=by omega
 have hw:ah .i64 ((j:Int)+1)=(j:Int)+1:=wrap_i64 (by omega);have hw2:ah .i64 ((n:Int)-1)=(n:Int)-1:=wrap_i64 (by omega);have hj1:((j+1:Nat):Int)=(j:Int)+1:=by omega
 have hl1:(is++[w.d]).length=j+1:=by simp[hi]
 refine Ex.of (n:=K+300) ?_;obtain⟨ws,l1,l2,c,b,u,p,q,ew⟩:=w.aM;obtain⟨vs,k1,k2,c',b',u',p',q',ev⟩:=v.aM;unfold P6 mH;rw[hl1,if_neg (show ¬ j+1=0 by omega),hi,hj1,Nat.add_sub_cancel];rw[ew]at t1 ⊢;rw[ev]at t2 ⊢;clear h1 h2 ew ev;unfold dG iD Gn L_ bz wD at*;generalize LK .i64 ps=l9,LK .i64 li=l8,LK .i64 lf=l7,LK .i64 la=l6 at*;cases j with
 | zero =>
  have e1:is=[]:=List.length_eq_zero_iff.1 hi;have e2:fs=[]:=List.length_eq_zero_iff.1 hf;subst e1 e2;have z0:((0:Nat):Int)=0:=rfl;rw[z0]at t1 t2 hw ⊢;rw[if_pos rfl];simp (maxSteps:=400000) -implicitDefEqProofs[mL1,f1028,t1,t2,hw,hw2,hj,hjn,Np,most]
 | succ k =>
  have hk:((k+1:Nat):Int)=(k:Int)+1:=by omega
  rw[if_neg (show ¬ k+1=0 by omega),Nat.add_sub_cancel];rw[hk]at t1 t2 hw hjn ⊢;have tk1:is.take (k+1)=is:=List.take_of_length_le (by omega);have tk2:fs.take (k+1)=fs:=List.take_of_length_le (by omega);have m1:(k+1+1)*128<=1099511627776:=by omega
  have m2:k+1+1<=1099511627776:=by omega
  simp (maxSteps:=400000) -implicitDefEqProofs[mL1,f1028,t1,t2,hw,hw2,hj,hjn,hi,hf,tk1,tk2,most,m1,m2]
theorem Yt (st:Int)(li lf la:List Int)(kk:Int)(ps:List Int)(sy:Int)(n:Nat)(hn:0<n)(is fs:List D)(hi:is.length=n) :
  Ex E1 mL1 (P6 sy n (mH (dG st li lf la) (iD kk ps) kk ps sy n is fs) n .u) (.exit 0,P6 sy n (mH (dG st li lf la) (iD kk ps) kk ps sy n is fs) n (.d (.v (.bool false)))):=by
 refine Ex.of (n:=100) ?_;unfold P6 mH;rw[hi,if_neg (by omega)];unfold dG iD Gn L_;generalize LK .i64 ps=l9,LK .i64 li=l8,LK .i64 lf=l7,LK .i64 la=l6 at*;simp (maxSteps:=400000) -implicitDefEqProofs[mL1,f1028]
def P7 (sy:Int)(n:Nat)(L:List ae)(j:Nat)(t:FV):St :=
 (st0 [.u,.u,.d (.v (.int .i64 sy)),.u,.r (.loc 0) 0,.r (.loc 1) 0,.r (.loc 2) 0,.d (.v (.int .i64 n)),.r (.loc 3) 0,.u,.d (.v (.int .i64 (4*j))),.u,.u,t,.u] L)
def Zu:aH:=f1028.body.r.r.r.r.l.r.bl.lp
def mA (M R:ae)(kk:Int)(ps:List Int)(sy:Int)(n:Nat)(is fs as':List D):List ae :=
 if as'.length=0 then [M,R,Gn,L_ kk ps sy n (.ls (.loc 4) (n-1) 8 0 n) (.ls (.loc 5) (n-1) 8 0 n) (.d (.n 11)),.row (n-1) 8 is,.row (n-1) 8 fs]
 else [M,R,Gn,L_ kk ps sy n (.ls (.loc 4) (n-1) 8 0 n) (.ls (.loc 5) (n-1) 8 0 n) (.ls (.loc 6) (as'.length-1) 11 0 as'.length),.row (n-1) 8 is,.row (n-1) 8 fs,.row (as'.length-1) 11 as']
variable {α:Type} {e:α->W}
theorem U2 (st:Int)(li lf la:List Int)(kk:Int)(ps:List Int)(sy:Int)(n j:Nat)(hn:0<n/\n<=4)(hsy:1<=sy/\sy<=32)(is fs as':List D)(ha:as'.length=j)(hj:j<10)(v0 v1 v2 v3:Int) 
  (g0:la[4*j]?=some v0) (g1:la[4*j+1]?=some v1) (g2:la[4*j+2]?=some v2) (g3:la[4*j+3]?=some v3) (x:α)
  (h0:Ca E1 46 [.d (.v (.int .i64 v0)),.d (.v (.int .i64 n))] (.d (.v (.int .i64 (v0 % n))),none)) (h1:Ca E1 46 [.d (.v (.int .i64 v1)),.d (.v (.int .i64 sy))] (.d (.v (.int .i64 (v1 % sy))),none))
  (h2:Ca E1 46 [.d (.v (.int .i64 v2)),.d (.v (.int .i64 n))] (.d (.v (.int .i64 (v2 % n))),none)) (h3:Ca E1 16 [.d (bz kk ps),.d (.v (.int .i64 v3))] (.d (e x).d,none)) :
  Ex E1 Zu (P7 sy n (mA (dG st li lf la) (iD kk ps) kk ps sy n is fs as') j .u) (.norm,P7 sy n (mA (dG st li lf la) (iD kk ps) kk ps sy n is fs (as'++[Ar.d e ⟨v0 % n,1+v1 % sy,v2 % n,x⟩])) (j+1) .u):=by
 obtain⟨K,hK,t0,t1,t2,t3⟩:=(h0.j (h1.j (h2.j h3.any))).at 0;have q3:=(bH g3)
 have hlen:(LK .i64 la).length=la.length:=by simp[LK]
 have e0:(LK .i64 la)[4*j]?=some (.v (.int .i64 v0)):=by simp[LK,g0]
 have e1:(LK .i64 la)[4*j+1]?=some (.v (.int .i64 v1)):=by simp[LK,g1]
 have e2:(LK .i64 la)[4*j+2]?=some (.v (.int .i64 v2)):=by simp[LK,g2]
 have e3:(LK .i64 la)[4*j+3]?=some (.v (.int .i64 v3)):=by simp[LK,g3]
 have r1:=Int.emod_nonneg v1 (show sy≠0 by omega);have r2:=Int.emod_lt_of_pos v1 (show 0<sy by omega);have hw1:ah .i64 (1+v1 % sy)=1+v1 % sy:=wrap_i64 (by omega);have hl1:(as'++[Ar.d e ⟨v0 % n,1+v1 % sy,v2 % n,x⟩]).length=j+1:=by simp[ha]
 have u1:((4*j+1:Nat):Int)=4*(j:Int)+1:=by omega
 have c4:4*((j+1:Nat):Int)=4*(j:Int)+4:=by omega
 refine Ex.of (n:=K+400) ?_;obtain⟨s,a1,a2,ac,ab,au,ap,aq,ew,ea⟩:=Ar.jO e (⟨v0 % n,1+v1 % sy,v2 % n,x⟩:Ar α);simp only at ew;unfold P7 mA;rw[hl1,if_neg (show ¬ j+1=0 by omega),ha,c4,Nat.add_sub_cancel,ea];rw[ew]at t3;clear h0 h1 h2 h3 ew ea hl1;unfold dG iD Gn L_ bz wD BO at*;simp only;generalize LK .i64 ps=l9,LK .i64 li=l8,LK .i64 lf=l7,LK .i64 la=l6,v1 % sy=w1 at*;generalize v0 % (n:Int)=w0 at*;generalize v2 % (n:Int)=w2 at*;have p0:4*j<la.length:=by omega
 have p1:4*j+1<la.length:=by omega
 have p2:4*j+2<la.length:=by omega
 obtain⟨k,hk⟩:∃ k:Nat,k=4*j:=⟨_,rfl⟩
 have hkI:4*(j:Int)=(k:Int):=by omega
 have ajV:k<=36:=by omega
 have hkl:k+3<la.length:=by omega
 rw[<-hk]at e0 e1 e2 e3 p0 p1 p2 q3;rw[hkI];have i0:=idx e0;have i1:=idx e1;have i2:=idx e2;have i3:=idx e3;have s1:ah .i64 ((k:Int)+1)=(k:Int)+1:=wrap_i64 (by omega);have s2:ah .i64 ((k:Int)+2)=(k:Int)+2:=wrap_i64 (by omega);have s3:ah .i64 ((k:Int)+3)=(k:Int)+3:=wrap_i64 (by omega);have s4:ah .i64 ((k:Int)+4)=(k:Int)+4:=wrap_i64 (by omega);have b0:(0:Int)<=(k:Int):=by omega
 have b1:(0:Int)<=(k:Int)+1:=by omega
 have b2:(0:Int)<=(k:Int)+2:=by omega
 have b3:(0:Int)<=(k:Int)+3:=by omega
 have k0:(k:Int)<(la.length:Int):=by omega
 have k1:(k:Int)+1<(la.length:Int):=by omega
 have k2:(k:Int)+2<(la.length:Int):=by omega
 have k3:(k:Int)+3<(la.length:Int):=by omega
 have k4:(k:Int)<40:=by omega
 have d1:((k:Int)+1).toNat=k+1:=by omega
 have d2:((k:Int)+2).toNat=k+2:=by omega
 have d3:((k:Int)+3).toNat=k+3:=by omega
 cases j with
 | zero =>
  have e1:as'=[]:=List.length_eq_zero_iff.1 ha;subst e1;rw[if_pos rfl];simp (maxSteps:=800000) -implicitDefEqProofs[Zu,f1028,t0,t1,t2,t3,hw1,hlen,e0,e1,e2,e3,i0,i1,i2,i3,p0,p1,p2,q3,s1,s2,s3,s4,b0,b1,b2,b3,k0,k1,k2,k3,k4,d1,d2,d3,most]
 | succ m =>
  rw[if_neg (show ¬ m+1=0 by omega),Nat.add_sub_cancel];have tk:as'.take (m+1)=as':=List.take_of_length_le (by omega);have m1:(m+1+1)*152<=1099511627776:=by omega
  have m2:m+1+1<=1099511627776:=by omega
  simp (maxSteps:=800000) -implicitDefEqProofs[Zu,f1028,t0,t1,t2,t3,hw1,hlen,e0,e1,e2,e3,i0,i1,i2,i3,p0,p1,p2,q3,s1,s2,s3,s4,b0,b1,b2,b3,k0,k1,k2,k3,k4,d1,d2,d3,ha,tk,most,m1,m2]
theorem Yu (st:Int)(li lf la:List Int)(kk:Int)(ps:List Int)(sy:Int)(n j:Nat)(is fs as':List D)(hj:j<=10)(h:la.length<4*j+4\/j=10) :
  Ex E1 Zu (P7 sy n (mA (dG st li lf la) (iD kk ps) kk ps sy n is fs as') j .u) (.exit 2,P7 sy n (mA (dG st li lf la) (iD kk ps) kk ps sy n is fs as') j (.d (.v (.bool false)))):=by
 have hlen:(LK .i64 la).length=la.length:=by simp[LK]
 have s3:ah .i64 (4*(j:Int)+3)=4*(j:Int)+3:=wrap_i64 (by omega);refine Ex.of (n:=200) ?_;unfold P7 mA;unfold dG iD Gn L_;generalize LK .i64 ps=l9,LK .i64 li=l8,LK .i64 lf=l7,LK .i64 la=l6 at*
 by_cases h1:4*(j:Int)+3<(la.length:Int)
 ·have h2:¬ 4*(j:Int)<40:=by omega
  split<;>simp (maxSteps:=400000) -implicitDefEqProofs[Zu,f1028,hlen,s3,h1,h2]
 ·split<;>simp (maxSteps:=400000) -implicitDefEqProofs[Zu,f1028,hlen,s3,h1]
def stM (st:Int):Nat:=(1+ah .i64 (st-1) % 4).toNat
theorem NL (st:Int):(stM st:Int)=1+ah .i64 (st-1) % 4:=by
 unfold stM;have h1:=Int.emod_nonneg (ah .i64 (st-1)) (show(4:Int)≠0 by omega);omega
theorem U3 (st:Int):0<stM st/\stM st<=4:=by
 have h:=NL st;have h1:=Int.emod_nonneg (ah .i64 (st-1)) (show(4:Int)≠0 by omega);have h2:=Int.emod_lt_of_pos (ah .i64 (st-1)) (show(0:Int)<4 by omega);omega
def zF (kk:Int)(ps:List Int)(l:List Int)(one n:Nat):List (List Sv):=(List.range n).map fun i=>ym kk ps l i one
def aeK (kk:Int)(ps:List Int)(sy:Int)(n:Nat)(la:List Int)(j:Nat):Ar (List Sv):=⟨la.getD (4*j) 0 % n,1+la.getD (4*j+1) 0 % sy,la.getD (4*j+2) 0 % n,q8 kk ps (la.getD (4*j+3) 0)⟩
def CJ (la:List Int):Nat:=min 10 (la.length / 4)
def wM (kk:Int)(ps:List Int)(sy:Int)(n:Nat)(la:List Int):List (Ar (List Sv)):=(List.range (CJ la)).map (aeK kk ps sy n la)
theorem Jp (kk:Int)(ps l:List Int)(one n:Nat):(zF kk ps l one n).length=n:=by simp[zF]
theorem P8 (kk:Int)(ps:List Int)(sy:Int)(n:Nat)(la:List Int):(wM kk ps sy n la).length<=10:=by simp[wM,CJ];omega
theorem Yv {kk:Int}{ps:List Int}(hv:aI kk ps=true)(st:Int)(li lf la:List Int)(sy:Int)(hsy:1<=sy/\sy<=32)(hi:∀ x ∈ li,fu x)(hf:∀ x ∈ lf,fu x)(ha:∀ x ∈ la,fu x) :
  Ca E1 1028 [.d (moD st li lf la),.d (bz kk ps),.d (.v (.int .i64 sy)),.d (.v (.int .i64 4))]
   (.d (Cb kk ps sy (stM st) ((zF kk ps li 0 (stM st)).map (bR kk)) ((zF kk ps lf (stM st-1) (stM st)).map (bR kk)) (bR kk) (wM kk ps sy (stM st) la)),none):=by
 obtain⟨hn0,hn4⟩:=U3 st;have hni:=NL st;have cm:=Ca.fG (iN (ah .i64 (st-1)) 4 (Uf _) (by omega) (by omega));have hw:ah .i64 (1+ah .i64 (st-1) % 4)=1+ah .i64 (st-1) % 4:=wrap_i64 (by omega);generalize hmm:ah .i64 (st-1) % 4=mm at*;generalize stM st=n at*;have e1:((zF kk ps li 0 n).map (bR kk)).map W.d=(List.range n).map fun i=>(bR kk (ym kk ps li i 0)).d:=by simp[zF]
 have e2:((zF kk ps lf (n-1) n).map (bR kk)).map W.d=(List.range n).map fun i=>(bR kk (ym kk ps lf i (n-1))).d:=by simp[zF]
 unfold Cb;rw[e1,e2]
 -- the ends
 obtain⟨r1,hl1,hr1⟩:=Ex.fold (E:=E1) (b:=mL1) (List.range n) (fun(u:Unit) _=>u) () (fun j _ s=>s=P6 sy n (mH (dG st li lf la) (iD kk ps) kk ps sy n ((List.range j).map fun i=>(bR kk (ym kk ps li i 0)).d) ((List.range j).map fun i=>(bR kk (ym kk ps lf i (n-1))).d)) j .u)
  (fun _ q=>q=(.exit 0,P6 sy n (mH (dG st li lf la) (iD kk ps) kk ps sy n ((List.range n).map fun i=>(bR kk (ym kk ps li i 0)).d) ((List.range n).map fun i=>(bR kk (ym kk ps lf i (n-1))).d)) n (.d (.v (.bool false)))))
  (fun j a s hj hs=>by
   have hjn:j<n:=by simpa using(bH hj)
   subst hs;refine⟨_,?_,rfl⟩;rw[List.range_succ,List.map_append,List.map_append];have c2:=UZ hv lf hf j (n-1);rw[show(((n-1:Nat)):Int)=(n:Int)-1 by omega]at c2;exact U1 st li lf la kk ps sy n j hjn hn4 _ _ (by simp) (by simp) _ _ (UZ hv li hi j 0) c2)
  (fun s hs=>by
   subst hs;simp only[List.length_range];exact⟨_,Yt st li lf la kk ps sy n hn0 _ _ (by simp),by simp,rfl⟩)
  (st:=P6 sy n (mH (dG st li lf la) (iD kk ps) kk ps sy n [] []) 0 .u) rfl
 subst hr1;generalize hIs:((List.range n).map fun i=>(bR kk (ym kk ps li i 0)).d)=is at*;generalize hFs:((List.range n).map fun i=>(bR kk (ym kk ps lf i (n-1))).d)=fs at*;have hil:is.length=n:=by rw[<-hIs];simp
 have hfl:fs.length=n:=by rw[<-hFs];simp
 clear hIs hFs e1 e2
 -- the aB
 obtain⟨r2,hl2,hr2⟩:=Ex.fold (E:=E1) (b:=Zu) (List.range (CJ la)) (fun(u:Unit) _=>u) () (fun j _ s=>s=P7 sy n (mA (dG st li lf la) (iD kk ps) kk ps sy n is fs (((List.range j).map (aeK kk ps sy n la)).map (Ar.d (bR kk)))) j .u)
  (fun _ q=>q=(.exit 2,P7 sy n (mA (dG st li lf la) (iD kk ps) kk ps sy n is fs ((wM kk ps sy n la).map (Ar.d (bR kk)))) (CJ la) (.d (.v (.bool false)))))
  (fun j a s hj hs=>by
   have hjn:j<CJ la:=by simpa using(bH hj)
   have ahs:=hjn;unfold CJ at ahs;subst hs;refine⟨_,?_,rfl⟩;rw[List.range_succ,List.map_append,List.map_append];have g:∀ k,k<4->la[4*j+k]?=some (la.getD (4*j+k) 0):=fun k hk=>by
    rw[List.getD_eq_getElem?_getD,List.getElem?_eq_getElem (by omega)];rfl
   have gr:∀ k,k<4->fu (la.getD (4*j+k) 0):=fun k hk=>ha _ (List.mem_of_getElem? (g k hk))
   exact U2 (e:=bR kk) st li lf la kk ps sy n j ⟨hn0,hn4⟩ hsy is fs _ (by simp) (by omega) _ _ _ _ (g 0 (by omega)) (g 1 (by omega)) (g 2 (by omega)) (g 3 (by omega)) _
    (Ca.fG (iN _ n (gr 0 (by omega)) (by omega) (by omega))) (Ca.fG (iN _ sy (gr 1 (by omega)) (by omega) (by omega))) (Ca.fG (iN _ n (gr 2 (by omega)) (by omega) (by omega))) (IY hv _ (gr 3 (by omega))))
  (fun s hs=>by
   subst hs;simp only[List.length_range];exact⟨_,Yu st li lf la kk ps sy n (CJ la) is fs _ (by unfold CJ;omega) (by unfold CJ;omega),by simp,rfl⟩)
  (st:=P7 sy n (mA (dG st li lf la) (iD kk ps) kk ps sy n is fs []) 0 .u) rfl
 subst hr2;have hal:((wM kk ps sy n la).map (Ar.d (bR kk))).length=CJ la:=by simp[wM]
 generalize (wM kk ps sy n la).map (Ar.d (bR kk))=as' at*;obtain⟨N,t⟩:=cm.get;have hA:Ex E1 f1028.body.l (st0 [.d (moD st li lf la),.d (bz kk ps),.d (.v (.int .i64 sy)),.d (.v (.int .i64 4)),.u,.u,.u,.u,.u,.u,.u,.u,.u,.u,.u] [])
   (.norm,(st0 [.u,.u,.d (.v (.int .i64 sy)),.d (.v (.int .i64 4)),.r (.loc 0) 0,.r (.loc 1) 0,.r (.loc 2) 0,.u,.u,.u,.u,.u,.u,.u,.u] [dG st li lf la,iD kk ps,Gn])):=by
  refine Ex.of (n:=60) ?_;unfold moD dG bz iD Gn;generalize LK .i64 ps=l9,LK .i64 li=l8,LK .i64 lf=l7,LK .i64 la=l6 at*;simp -implicitDefEqProofs[f1028]
 have hB:Ex E1 f1028.body.r.l (st0 [.u,.u,.d (.v (.int .i64 sy)),.d (.v (.int .i64 4)),.r (.loc 0) 0,.r (.loc 1) 0,.r (.loc 2) 0,.u,.u,.u,.u,.u,.u,.u,.u] [dG st li lf la,iD kk ps,Gn])
   (.norm,(st0 [.u,.u,.d (.v (.int .i64 sy)),.u,.r (.loc 0) 0,.r (.loc 1) 0,.r (.loc 2) 0,.d (.v (.int .i64 n)),.u,.u,.u,.u,.u,.u,.u] [dG st li lf la,iD kk ps,Gn])):=by
  refine Ex.of (n:=N+60) ?_;rw[hni];unfold dG iD Gn;generalize LK .i64 ps=l9,LK .i64 li=l8,LK .i64 lf=l7,LK .i64 la=l6 at*;simp -implicitDefEqProofs[f1028,t,hw]
 have hC:Ex E1 f1028.body.r.r.l (st0 [.u,.u,.d (.v (.int .i64 sy)),.u,.r (.loc 0) 0,.r (.loc 1) 0,.r (.loc 2) 0,.d (.v (.int .i64 n)),.u,.u,.u,.u,.u,.u,.u] [dG st li lf la,iD kk ps,Gn])
   (.norm,(st0 [.u,.u,.d (.v (.int .i64 sy)),.u,.r (.loc 0) 0,.r (.loc 1) 0,.r (.loc 2) 0,.d (.v (.int .i64 n)),.r (.loc 3) 0,.u,.u,.u,.u,.u,.u] [dG st li lf la,iD kk ps,Gn,L_ kk ps sy n (.d (.n 8)) (.d (.n 8)) (.d (.n 11))])):=by
  refine Ex.of (n:=100) ?_;unfold dG iD Gn L_;generalize LK .i64 ps=l9,LK .i64 li=l8,LK .i64 lf=l7,LK .i64 la=l6 at*;simp -implicitDefEqProofs[f1028]
 have hD:Ex E1 f1028.body.r.r.r.l.l (st0 [.u,.u,.d (.v (.int .i64 sy)),.u,.r (.loc 0) 0,.r (.loc 1) 0,.r (.loc 2) 0,.d (.v (.int .i64 n)),.r (.loc 3) 0,.u,.u,.u,.u,.u,.u] [dG st li lf la,iD kk ps,Gn,L_ kk ps sy n (.d (.n 8)) (.d (.n 8)) (.d (.n 11))])
   (.norm,P6 sy n (mH (dG st li lf la) (iD kk ps) kk ps sy n [] []) 0 .u):=by
  refine Ex.of (n:=60) ?_;unfold P6 mH;simp -implicitDefEqProofs[f1028]
 have hE:Ex E1 f1028.body.r.r.r.r.l.l (P6 sy n (mH (dG st li lf la) (iD kk ps) kk ps sy n is fs) n (.d (.v (.bool false))))
   (.norm,P7 sy n (mA (dG st li lf la) (iD kk ps) kk ps sy n is fs []) 0 .u):=by
  refine Ex.of (n:=60) ?_;unfold P6 P7 mH mA;rw[hil,if_neg (by omega),if_pos (show([]:List D).length=0 from rfl)];simp -implicitDefEqProofs[f1028]
 refine Ca.body (o:=.ret) (st1:=(st0 [.u,.u,.u,.u,.u,.u,.r (.loc 2) 0,.u,.u,.u,.u,.u,.u,.u,.u] ((mA (dG st li lf la) (iD kk ps) kk ps sy n is fs as').set 2 (L_ kk ps sy n (.ls (.loc 4) (n-1) 8 0 n) (.ls (.loc 5) (n-1) 8 0 n) (if as'.length=0 then .d (.n 11) else .ls (.loc 6) (as'.length-1) 11 0 as'.length))))) rfl (k1028:E1.fn _=_) rfl ?_ (by intro id h;cases h) ?_
 ·have hF : Ex E1 f1028.body.r.r.r.r.r (P7 sy n (mA (dG st li lf la) (iD kk ps) kk ps sy n is fs as') (CJ la) (.d (.v (.bool false))))
       (.ret, (st0 [.u, .u, .u, .u, .u, .u, .r (.loc 2) 0, .u, .u, .u, .u, .u, .u, .u, .u] ((mA (dG st li lf la) (iD kk ps) kk ps sy n is fs as').set 2 (L_ kk ps sy n (.ls (.loc 4) (n - 1) 8 0 n) (.ls (.loc 5) (n - 1) 8 0 n) (if as'.length = 0 then .d (.n 11) else .ls (.loc 6) (as'.length - 1) 11 0 as'.length))))) := by
   refine Ex.of (n:=100) ?_;unfold P7 mA dG iD Gn L_;generalize LK .i64 ps=l9,LK .i64 li=l8,LK .i64 lf=l7,LK .i64 la=l6 at*
   by_cases h:as'.length=0
   ·rw[if_pos h,if_pos h];simp -implicitDefEqProofs[f1028]
   ·rw[if_neg h,if_neg h];simp -implicitDefEqProofs[f1028]
  show Ex E1 (.seq f1028.body.l (.seq f1028.body.r.l (.seq f1028.body.r.r.l (.seq (.seq f1028.body.r.r.r.l.l (.block 0 (.loop mL1))) (.seq (.seq f1028.body.r.r.r.r.l.l (.block 2 (.loop Zu))) f1028.body.r.r.r.r.r))))) _ _;exact hA.seq (hB.seq (hC.seq ((hD.seq hl1.block).seq ((hE.seq hl2.block).seq hF))))
 ·have v1:ae.view (n-1) 8 0 n (.row (n-1) 8 is)=some is:=by rw[<-hil];simp[ae.view]
  have v2:ae.view (n-1) 8 0 n (.row (n-1) 8 fs)=some fs:=by rw[<-hfl];simp[ae.view]
  have v3:ae.view (as'.length-1) 11 0 as'.length (.row (as'.length-1) 11 as')=some as':=by simp[ae.view]
  unfold mA dG iD Gn L_ u7;generalize LK .i64 ps=l9,LK .i64 li=l8,LK .i64 lf=l7,LK .i64 la=l6 at*
  by_cases h:as'.length=0
  ·have h':as'=[]:=List.length_eq_zero_iff.1 h;subst h';simp -implicitDefEqProofs[f1028,v1,v2]
  ·rw[if_neg h,if_neg h];simp -implicitDefEqProofs[f1028,v1,v2,v3]
end Fi.S
noncomputable section
namespace Fi.S
open Go Fi
set_option maxHeartbeats 8000000
set_option maxRecDepth 10000
theorem abR {k:Int}(hk:single k=true){S M:Nat}{x:Sv}(hx:x.of k S M)(h:x.w=(dC k).w):x=dC k:=by
 rcases aL hk with rfl|rfl|rfl|rfl|rfl
 ·obtain⟨a,rfl,_⟩:=vW hx
  injection h with h1 h2 h3
  show Sv.q a=.q 0;rw[<-qI a,h1,h2,h3,qI]
 ·obtain⟨i,n,rfl,_⟩:=vX hx
  injection h with _ _ _ h1 h2
  show Sv.c i n=.c true 0;rw[h1,h2]
 ·obtain⟨a,rfl,_⟩:=vY hx
  injection h with h1 h2 h3
  show Sv.q a=.q 0;rw[<-qI a,h1,h2,h3,qI]
 ·obtain⟨u,rfl,_⟩:=vZ hx
  injection h with _ _ _ _ _ h1
  show Sv.s u=.s 0;rw[h1]
 ·obtain⟨a,rfl,_⟩:=v_ hx
  injection h with _ _ _ _ _ _ h1
  have:a=[]:=List.map_eq_nil_iff.1 h1;rw[this];rfl
theorem U4 {kk:Int}{ps:List Int}(hv:aI kk ps=true){x:List Sv}(hx:u_ (dx kk ps) x)(h:DK kk ps x=true):x=bg kk ps:=by
 have he:=W.NC h;obtain⟨S,M,_,_,hx⟩:=hx;have hs:=aN hv;have hz:gH 1 1 (dx kk ps) (bg kk ps):=jY (by omega) hs;refine lL hx.1 hz.1 (fun i k a b hk ha hb => ?_);have hb':b=dC k:=nG hk hb;subst hb';refine abR (hs k (List.mem_of_getElem? hk)) (hx.2 i k a hk ha) ?_;unfold bR at he
 by_cases h6:kk=6
 ·rw[if_pos h6,if_pos h6]at he
  injection he with _ _ _ _ _ _ _ he
  have h1:(x.map Sv.w)[i]?=some a.w:=by rw[List.getElem?_map,ha];rfl
  have h2:((bg kk ps).map Sv.w)[i]?=some (dC k).w:=by rw[List.getElem?_map,hb];rfl
  rw[he,h2]at h1;exact(Option.some.inj h1).symm
 ·rw[if_neg h6,if_neg h6]at he;have hl:x.length=1:=by rw[hx.1];unfold dx;rw[if_neg h6];rfl
  have hi:i=0:=by have:=(bH ha);omega
  subst hi;have e1:x.headD (.q 0)=a:=by
   cases x with
   | nil=>cases ha
   | cons y r=>cases ha;rfl
  have e2:(bg kk ps).headD (.q 0)=dC k:=by
   cases hq:bg kk ps with
   | nil=>rw[hq]at hb;cases hb
   | cons y r=>rw[hq]at hb;cases hb;rfl
  rw[e1,e2]at he;exact he
def GF (kk:Int)(ps:List Int)(n:Nat)(x:List Sv):Prop:=1<=n/\u_ (dx kk ps) x/\tJ 6 (640*n) x
theorem GF.Zv {kk:Int}{ps:List Int}(hv:aI kk ps=true){n:Nat}{x:List Sv}(h:GF kk ps n x)(hn:n<=1000):gH 3 216 (dx kk ps) x:=wL (aN hv) h.2.1 h.2.2 (by omega) (by omega) (by omega)
theorem Wt.gf {kk:Int}{ps:List Int}{x:List Sv}(h:Wt kk ps x):GF kk ps 1 x:=⟨Nat.le_refl _,h.gd,h.2⟩
theorem aht {kk:Int}{ps:List Int}(hv:aI kk ps=true):Zm kk ps (bR kk) (bL (dx kk ps)) (bR kk (bg kk ps)) (DK kk ps) (GF kk ps) 20 where
 mono n x h:=⟨by omega,h.2.1,h.2.2.mono (by omega)⟩
 zero:=EC hv
 pz x h:=by
  have h3:=h.Zv hv (by omega);have:=Nn hv (by omega) (by omega) h3 (jY (M:=216) (by omega) (aN hv));rw[BK (S:=3) (M:=216) (by omega) (aN hv) h3]at this;exact this
 tk x h:=wh hv (by omega) (by omega) (h.Zv hv (by omega))
 p1 n x y hn hx hy:=Nn hv (S:=3) (M:=216) (by omega) (by omega) (hx.Zv hv (by omega)) (hy.Zv hv (by omega))
 p2 n x y hn hx hy:=I6 hv (S:=3) (M:=216) (by omega) (by omega) (hx.Zv hv (by omega)) (hy.Zv hv (by omega))
 pg n x y hn hx hy:=by
  have h1:=hx.1;refine⟨by omega,(Jm (aN hv)).pp hx.2.1 hy.2.1,?_⟩;exact(Cu (aN hv) hx.2.1 hy.2.1 hx.2.2 hy.2.2).mono (by omega)
 z1 n x hn hx:=(Uq hv (by omega) (hx.Zv hv (by omega))).1
 z2 n x hn hx:=(Uq hv (by omega) (hx.Zv hv (by omega))).2
theorem EL {kk:Int}{ps:List Int}(hv:aI kk ps=true){S M D N T:Nat}{x:List Sv}(h:gH S M (dx kk ps) x)(hf:tJ D N x)(hD:0<D)(hDT:D<4294967296 ^ T)(hN:N<4294967296 ^ T):gH T M (dx kk ps) x:=by
 refine⟨h.1,fun i k x hk hx => ?_⟩;have g1:=h.2 i k x hk hx;have g2:=L9 (T:=T) (aN hv k (List.mem_of_getElem? hk)) g1 (hf x (List.mem_of_getElem? hx)) hD hDT hN;cases x with
 | q a=>exact⟨g2.1,g2.2⟩
 | c i n=>exact g2
 | s u=>exact g2
 | p l=>exact⟨g2.1,g2.2.1,g1.2.2⟩
section aB
variable {kk:Int} {ps:List Int} (hv:aI kk ps=true)
include hv
structure Jq (kk:Int)(ps:List Int)(sy n:Nat)(a:Ar (List Sv)):Prop where
 f:0<=a.f/\a.f<n
 l:1<=a.l/\a.l<=sy
 t:0<=a.t/\a.t<n
 x:gH 9 2 (dx kk ps) a.x
 fr:tJ 6 64 a.x
theorem Jq.wt {sy n:Nat}{a:Ar (List Sv)}(h:Jq kk ps sy n a):Wt kk ps a.x:=⟨(EL (T:=3) hv h.x h.fr (by omega) (by omega) (by omega)).mono (by omega) (by omega),h.fr.mono (by omega)⟩
theorem U5 {sy n:Nat}{fD:List Sv->Bool}{l:List (Ar (List Sv))}(h:∀ a ∈ l,Jq kk ps sy n a)(hl:l.length<=10):∀ a ∈ gy (bL (dx kk ps)) fD l,Wt kk ps a.x/\(0<=a.f/\a.f<n)/\(1<=a.l/\a.l<=sy)/\(0<=a.t/\a.t<n):=by
 let Q:Nat->Ar (List Sv)->Prop:=fun j a=>gH (10*j+1) (2*j) (dx kk ps) a.x/\tJ 6 (64*j) a.x/\(0<=a.f/\a.f<n)/\(1<=a.l/\a.l<=sy)/\(0<=a.t/\a.t<n)
 have A:=Jm (aN hv);have key:∀ (l:List (Ar (List Sv))) (p:List (Ar (List Sv))) (j:Nat),(∀ a ∈ l,Jq kk ps sy n a)->(∀ a ∈ p,Q j a)->∀ a ∈ l.foldl (fun p x=>bJ (bL (dx kk ps)) x p) p,Q (j+l.length) a:=by
  intro l
  induction l with
  | nil=>intro p j _ hp;exact hp
  | cons x l ih =>
   intro p j hl hp;have hx:=hl x (by simp);rw[List.foldl_cons,show j+(x::l).length=(j+1)+l.length by simp;omega];refine ih _ (j+1) (fun a ha=>hl a (by simp[ha])) ?_;refine o7 (bL (dx kk ps)) x (Q j) (Q (j+1)) ⟨hx.x.mono (by omega) (by omega),hx.fr.mono (by omega),hx.f,hx.l,hx.t⟩ (fun y hy=>⟨hy.1.mono (by omega) (by omega),hy.2.1.mono (by omega),hy.2.2⟩) (fun y hy=>⟨?_,?_,hy.2.2⟩) p hp
   ·exact(BU (by omega) (by omega) (aN hv) hy.1 hx.x).mono (by omega) (by omega)
   ·refine(Cu (aN hv) ⟨_,_,by omega,?_,hy.1.mono (Nat.le_refl _) (show 2*j<=2*j+1 by omega)⟩ ⟨_,_,by omega,by omega,hx.x⟩ hy.2.1 hx.fr).mono (by omega);omega
 intro a ha;have h2:=key l [] 0 h (fun a ha=>by cases ha) a (List.mem_filter.1 ha).1;rw[Nat.zero_add]at h2;obtain⟨g1,g2,g3⟩:=h2;exact⟨⟨(EL hv (T:=3) g1 g2 (by omega) (by omega) (by omega)).mono (by omega) (by omega),g2.mono (by omega)⟩,g3⟩
theorem Ma (sy:Nat)(hsy:1<=sy)(n:Nat)(hn:0<n)(la:List Int):∀ a ∈ wM kk ps sy n la,Jq kk ps sy n a:=by
 intro a ha;obtain⟨j,hj,rfl⟩:=List.mem_map.1 ha;have r:=fun v:Int=>And.intro (Int.emod_nonneg v (show(n:Int)≠0 by omega)) (Int.emod_lt_of_pos v (show 0<(n:Int) by omega))
 have r2:=fun v:Int=>And.intro (Int.emod_nonneg v (show(sy:Int)≠0 by omega)) (Int.emod_lt_of_pos v (show 0<(sy:Int) by omega))
 have q:=r2 (la.getD (4*j+1) 0);exact⟨r _,⟨by show 1<=1+_;omega,by show 1+_<=_;omega⟩,r _,ED hv _,Cw hv _⟩
theorem Jr {x:List Sv}(h:Wt kk ps x):(bR kk x).OK/\cz kk ps (bR kk x)=true:=⟨IV hv (by omega) h.1,BL hv h.1⟩
theorem P9 {sy n:Nat}(hsy:1<=sy/\sy<=32)(hn:n<=64){aZ fin:List (List Sv)}{aB:List (Ar (List Sv))}(h1:aZ.length=n)(h2:fin.length=n)(hi:∀ x ∈ aZ,Wt kk ps x)(hf:∀ x ∈ fin,Wt kk ps x)(ha:aB.length<=2048)
  (hw:∀ a ∈ aB,Wt kk ps a.x/\(0<=a.f/\a.f<n)/\(1<=a.l/\a.l<=sy)/\(0<=a.t/\a.t<n)) :
  LJ kk ps sy n (aZ.map (bR kk)) (fin.map (bR kk)) (bR kk) aB=true:=by
 have e1:aB.all (o8 kk ps sy n (bR kk))=true:=by
  rw[List.all_eq_true];intro a ha;obtain⟨g1,g2,g3,g4⟩:=hw a ha;unfold o8 X5;rw[(Jr hv g1).2];simp only[Bool.and_true,Bool.and_eq_true,decide_eq_true_eq];omega
 have e2:∀ {l:List (List Sv)},(∀ x ∈ l,Wt kk ps x)->(l.map (bR kk)).all (cz kk ps)=true:=by
  intro l h;rw[List.all_eq_true];intro w hw;obtain⟨x,hx,rfl⟩:=List.mem_map.1 hw;exact(Jr hv (h x hx)).2
 unfold LJ Nv;rw[e1,e2 hi,e2 hf,hv];simp only[List.length_map,Bool.and_eq_true,decide_eq_true_eq,Bool.and_true,Bool.true_and,and_true,true_and];omega
end aB
end Fi.S
