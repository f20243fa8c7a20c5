import Derived.Test.YtbbogkfadofneaaGreatDoorDE
set_option linter.unusedVariables false
set_option linter.unusedSimpArgs false
noncomputable section
namespace Fi.S
open Go Fi
set_option maxHeartbeats 8000000
set_option maxRecDepth 10000
def sel {β:Type}(m:List Bool)(l:List β):List β:=((l.zip m).filter (·.2)).map (·.1)
end Fi.S
noncomputable section
namespace Fi.S
open Go Fi
set_option maxHeartbeats 8000000
set_option maxRecDepth 10000
variable {α:Type} {e:α->W}
end Fi.S
noncomputable section
namespace Fi.S
open Go Fi
set_option maxHeartbeats 8000000
section sel
variable {β:Type}
end sel
section trim
variable {α:Type} {dP:α->Bool} {pl:α->α->α}
variable {bJ fin:List α} {l:List (Ar α)} {n:Nat}
end trim
end Fi.S
noncomputable section
namespace Fi.S
open Go Fi
set_option maxHeartbeats 8000000
set_option maxRecDepth 10000
variable {α:Type} {e:α->W}
def zrL:aF:=f3537.body.r.r.l.r.bl.lp
def RY (n:Nat)(out:FV)(j:Nat)(t:FV)(L:List ah):St :=
 (st0 [.u,dI n,rL 0,.u,out,dI j,t] L)
def ZX (kk:Int)(ps:List Int)(z:W)(j:Nat)(out:FV)(L:List ah):Prop:=(j=0/\out=.d (.n 8)/\L=[aG kk ps])\/(0<j/\out=.ls (.loc 1) (j-1) 8 0 j/\L=[aG kk ps,.row (j-1) 8 (List.replicate j z.d)])
theorem Wl (kk:Int)(ps:List Int)(z:W)(n j:Nat)(hn:n<=1000000)(hj:j<n)(out:FV)(L:List ah)(ho:ZX kk ps z j out L)(hz:Ca E1 35 [.d (aT kk ps)] (.d z.d,none)) :
  ∃ out' L',Ex E1 zrL (RY n out j .u L) (.norm,RY n out' (j+1) .u L')/\ZX kk ps z (j+1) out' L':=by
 obtain⟨N,t⟩:=hz.get;have hjn:(j:Int)<(n:Int):=ae;have aR:ai .i64 ((j:Int)+1)=(j:Int)+1:=wrap_i64 ae;have hk1:((j+1:Nat):Int)=(j:Int)+1:=ae;obtain⟨s,l1,l2,c,b,u,p,q,ez⟩:=z.aN;have hrep:List.replicate (j+1) z.d=List.replicate j z.d++[z.d]:=List.replicate_succ';rcases ho with ⟨rfl,rfl,rfl⟩|⟨h0,rfl,rfl⟩
 ·have hn0:0<n:=hj;refine⟨.ls (.loc 1) 0 8 0 1,[aG kk ps,.row 0 8 [z.d]],Ex.of (n:=N+100) ?_,.inr ⟨ae,rfl,rfl⟩⟩;unfold RY;rw[hk1];rw[ez]at t ⊢;unfold aG aT wD at*;generalize LK .i64 ps=l9 at*;simp[zrL,f3537,t,hjn,hn0,aR,MB,most]
 ·refine⟨.ls (.loc 1) j 8 0 (j+1),[aG kk ps,.row j 8 (List.replicate j z.d++[z.d])],Ex.of (n:=N+100) ?_,.inr ⟨ae,by rw[Q02],by rw[Q02,hrep]⟩⟩;unfold RY;rw[hk1];have hl:(List.replicate j z.d).length=j:=Xi1;have m1:(j+1)*128<=most:=by unfold most;omega
  have m2:j+1<=most:=by unfold most;omega
  have hv:j-1+1=j:=ae;generalize List.replicate j z.d=es at*;rw[ez]at t ⊢;have tk:es.take j=es:=by rw[<-hl,Qn0]
  unfold aG aT wD at*;simp[zrL,f3537,t,hjn,aR,m1,m2,hl,hv,tk]
theorem QV (kk:Int)(ps:List Int)(z:W)(n:Nat)(hn:n<=1000000)(h0:0<n)(hz:Ca E1 35 [.d (aT kk ps)] (.d z.d,none)) :
  ∃ N,∀ m,CL E1 (N+m) 3537 [.d (aT kk ps),dI n] []=some (.ls (.old 1) (n-1) 8 0 n,some [aG kk ps,.row (n-1) 8 (List.replicate n z.d)]):=by
 obtain⟨r,h1,out,L,h2,h3⟩:=Ex.inv (E:=E1) (b:=zrL) (fun a:Nat × FV × List ah=>RY n a.2.1 a.1 .u a.2.2) (fun a=>n-a.1) (fun a=>a.1<=n/\ZX kk ps z a.1 a.2.1 a.2.2) (fun r=>∃ out L,r=(.exit 0,RY n out n (dB false) L)/\ZX kk ps z n out L) (fun a ⟨g0,g1⟩=>by
  obtain⟨j,out,L⟩:=a;simp only at g0 g1 ⊢;rcases Qg1 j n with h|h
  ·obtain⟨out',L',k1,k2⟩:=Wl kk ps z n j hn h out L g1 hz;exact .inl ⟨(j+1,out',L'),k1,by simp only;omega,by simp only;omega,k2⟩
  ·obtain rfl:j=n:=ae;refine .inr ⟨_,Ex.of (n:=60) (r:=(.exit 0,RY j out j (dB false) L)) ?_,aA,out,L,rfl,g1⟩;unfold RY;simp[zrL,f3537]) (0,.d (.n 8),[aG kk ps]) ⟨Qy1 _,.inl ⟨rfl,rfl,rfl⟩⟩
 subst h2;rcases h3 with ⟨rfl,_⟩|⟨_,rfl,rfl⟩
 ·omega
 have sA:Ex E1 f3537.body.l (st0 (.d (aT kk ps)::dI n::lI) []) (.norm,(st0 (.u::dI n::rL 0::vR) [aG kk ps])):=by
  apply e6;unfold aT aG;simp[f3537]
 have sB := nx sA f3537.body.r.l (st0 [.u,dI n,rL 0,.u,.d (.n 8),.u,.u] [aG kk ps]) (by
  apply e6;simp[f3537])
 have sC := nx sB f3537.body.r.r.l.l (RY n (.d (.n 8)) 0 .u [aG kk ps]) (by
  apply e6;unfold RY;rw[show((0:Nat):Int)=0 from rfl];simp[f3537])
 have sD:Ex E1 f3537.body.r.r.r (RY n (.ls (.loc 1) (n-1) 8 0 n) n (dB false) [aG kk ps,.row (n-1) 8 (List.replicate n z.d)]) (.ret,(st0 [.u,.u,.u,.ls (.loc 1) (n-1) 8 0 n,.u,.u,.u] [aG kk ps,.row (n-1) 8 (List.replicate n z.d)])):=by
  apply e6;unfold RY;simp[f3537]
 refine Wj (E:=E1) (g:=3537) (B:=[]) (args:=[.d (aT kk ps),dI n]) rfl (k3537:E1.fn _=_) rfl (sA.seq (sB.seq (Ex.seq (sC.seq (Ex.block h1)) sD))) aA ?_;have hb:∀ m,ah.az m (aG kk ps)=aG kk ps:=kN [vI kk,.s 1 (LK .i64 ps)];simp[finish,fI,show f3537.res=[.var 3] from rfl,show f3537.ref=true from rfl,hb,l5,FV.az]
def kz (pl tm:α->α->α)(z:α)(s:Int)(v out:List α)(a:Ar α):List α:=if a.l=s then out.set a.t.toNat (pl (out.getD a.t.toNat z) (tm (v.getD a.f.toNat z) a.x)) else out
def dC (pl tm:α->α->α)(z:α)(n:Nat)(aI:List (Ar α))(s:Int)(v:List α):List α:=aI.foldl (kz pl tm z s v) (List.replicate n z)
theorem Dj (pl tm:α->α->α)(z:α)(s:Int)(v out:List α)(a:Ar α):(kz pl tm z s v out a).length=out.length:=by unfold kz;split<;>simp
theorem OJ (pl tm:α->α->α)(z:α)(s:Int)(v:List α):∀ (l:List (Ar α)) (out:List α),(l.foldl (kz pl tm z s v) out).length=out.length
 | [],_=>rfl
 | a::l,out=>by rw[Qj2,OJ pl tm z s v l,Dj]
theorem oK (pl tm:α->α->α)(z:α)(n:Nat)(aI:List (Ar α))(s:Int)(v:List α):(dC pl tm z n aI s v).length=n:=by unfold dC;rw[OJ,Xi1]
def snL:aF:=f1534.body.r.r.l.r.bl.lp
def OL (v:List D)(s:Int)(io ak n j:Nat)(t:FV)(L:List ah):St :=
 (st0 [.u,.d (.s 8 v),dI s,rL 0,.u,.ls (.loc io) ak 8 0 n,dI j,.u,t,.u] L)
theorem Wm (kk:Int)(ps:List Int)(sy st:Int)(bJ fin:List D)(aI:List (Ar α))(hn:aI.length<=1000000)(v:List α)(s:Int)(io ak n j:Nat)(hio:io≠0)(L:List ah)(a:Ar α)(ha:aI[j]?=some a)(f t:Nat)(hf:a.f=(f:Int))(ht:a.t=(t:Int))
  (h0:L[0]?=some (bO kk ps sy st bJ fin (aI.map (Ar.d e)))) (R:List α) (hR:R.length=n) (h1:L[io]?=some (.row ak 8 (R.map fun x=>(e x).d))) (vf rt p q:α) (hvf:v[f]?=some vf) (hrt:R[t]?=some rt)
  (c1:a.l=s->Ca E1 21 [.d (aT kk ps),.d (e vf).d,.d (e a.x).d] (.d (e p).d,none)) (c2:a.l=s->Ca E1 19 [.d (aT kk ps),.d (e rt).d,.d (e p).d] (.d (e q).d,none)) :
  ∃ b,Dat b/\Ex E1 snL (OL (v.map fun x=>(e x).d) s io ak n j .u L) (.norm,OL (v.map fun x=>(e x).d) s io ak n (j+1) .u ((if a.l=s then L.set io (.row ak 8 ((R.set t q).map fun x=>(e x).d)) else L)++[b])):=by
 refine⟨jA e a,ai5 _,?_⟩;have hj:j<aI.length:=(bq ha)
 have hj0:(0:Int)<=(j:Int):=ae;have hjl:(j:Int)<(aI.length:Int):=ae;have aR:ai .i64 ((j:Int)+1)=(j:Int)+1:=wrap_i64 ae;have hk1:((j+1:Nat):Int)=(j:Int)+1:=ae;have e1:(aI.map (Ar.d e))[j]?=some (a.d e):=by simp[ha]
 have hel:(aI.map (Ar.d e)).length=aI.length:=aA;have e2:(v.map fun x=>(e x).d)[f]?=some (e vf).d:=by simp[hvf]
 have e3:(R.map fun x=>(e x).d)[t]?=some (e rt).d:=by simp[hrt]
 have f0:(0:Int)<=(f:Int):=ae;have t0:(0:Int)<=(t:Int):=ae;have tR:t<R.length:=(bq hrt)
 have tn:(t:Int)<(n:Int):=ae;have l0:0<L.length:=(bq h0)
 have l1:io<L.length:=(bq h1)
 have g0:∀ X,(L++X)[0]?=some (bO kk ps sy st bJ fin (aI.map (Ar.d e))):=fun X=>by rw[Qa0 l0];exact h0
 have g1:∀ X,(L++X)[io]?=some (.row ak 8 (R.map fun x=>(e x).d)):=fun X=>by rw[Qa0 l1];exact h1
 have sA:∀ b b':ah,(L++[b]).set L.length b'=L++[b']:=fun b b'=>by simp
 have hg:∀ b:ah,(L++[b])[L.length]?=some b:=fun b=>by simp
 have s1:∀ X r,(L++X).set io r=L.set io r++X:=fun X r=>Q50 _ _ l1
 rw[Q62];obtain⟨as',w1,w3,ac,ab,au,ap,aq,ew,ed⟩:=a.gD e;obtain⟨vs,Qg,Qh,vc,vb,vu,vp,vq,evf⟩:=(e vf).aN;obtain⟨rs,rl1,rl2,rc,rb,ru,rp,rq,ert⟩:=(e rt).aN;obtain⟨ps',pl1,U_,pc,pb,pu,pp,pq,ep⟩:=(e p).aN;obtain⟨qs',ql1,ql2,qc,qb,qu,qp,qq,eq⟩:=(e q).aN;unfold jA;rw[ed]at e1 ⊢;rw[hf,ht]at e1 ⊢;rw[evf]at e2 c1;rw[ert]at e3 c2;rw[ew]at c1;rw[ep]at c1 c2;rw[eq]at c2 ⊢;clear ew ed evf ert ep eq;unfold bO tX aT wD at*;simp only[D.cells,Qe2,Qc1];generalize aI.map (Ar.d e)=x3 at*;generalize hRd:(R.map fun x=>(e x).d)=rd at*;have hrl:rd.length=n:=by rw[<-hRd];simpa using hR
 clear hRd;generalize (v.map fun x=>(e x).d)=vd at*;have i1:=idx e1;have jl:j<x3.length:=(bq e1)
 have i2:=idx e2;have i3:=idx e3;have q2:f<vd.length:=(bq e2)
 have q3:t<rd.length:=(bq e3)
 have i4:=fun X=>idx (g0 X)
 have i5:=fun X=>idx (g1 X)
 have i6:=idx h0
 by_cases hs:a.l=s
 ·obtain⟨K,hK,t1,t2⟩:=((c1 hs).j ((c2 hs).any)).at 0;rw[if_pos hs];refine Ex.of (n:=K+400) ?_;unfold OL;rw[hk1];clear c1 c2;subst hs;simp (maxSteps:=400000) [snL,f1534,hj0,hjl,jl,hel,aR,f0,t0,tn,t1,t2,e1,e2,e3,i1,i2,i3,i4,i5,i6,q2,q3,g0,g1,h0,h1,hg,sA,s1,l0,l1]
 ·rw[if_neg hs];have hs2:(a.l==s)=false:=by rw[beq_eq_false_iff_ne];exact hs
  refine Ex.of (n:=400) ?_;unfold OL;rw[hk1];clear c1 c2;simp (maxSteps:=400000) [snL,f1534,hj0,hjl,jl,hel,aR,e1,i1,i4,i6,g0,h0,hg,sA,l0,hs,hs2]
theorem getD_at {β:Type}{l:List β}{i:Nat}{z:β}(h:i<l.length):l[i]?=some (l.getD i z):=by
 rw[Qk2,Qa1 h];rfl
theorem ZY (kk:Int)(ps:List Int)(sy st:Int)(bJ fin aI:List D)(v:List D)(s:Int)(io ak n:Nat)(L:List ah)(h0:L[0]?=some (bO kk ps sy st bJ fin aI)) :
  Ex E1 snL (OL v s io ak n aI.length .u L) (.exit 0,OL v s io ak n aI.length (dB false) L):=by
 apply e6;have l0:0<L.length:=(bq h0)
 unfold OL;unfold bO at h0;have i0:=idx h0;simp[snL,f1534,h0,i0,l0]
theorem QW (kk:Int)(ps:List Int):∀ m,CL E1 (100+m) 3537 [.d (aT kk ps),dI 0] []=some (.d (.n 8),none):=fun m=>by
 rw[show 100+m=m+100 by omega,av rfl (k3537:E1.fn _=_) rfl];unfold aT;simp[aC,f3537]
theorem ZZ (kk:Int)(ps:List Int)(sy:Int)(n:Nat)(hn:n<=100000)(bJ fin:List D)(aI:List (Ar α))(ha:aI.length<=100000)(hin:∀ a ∈ aI,(0<=a.f/\a.f<n)/\(0<=a.t/\a.t<n))(v:List α)(hv:v.length=n)(s:Int)(pl tm:α->α->α)(z:α)(hz:Ca E1 35 [.d (aT kk ps)] (.d (e z).d,none))
  (hc:∀ (j:Nat) (a:Ar α),aI[j]?=some a->a.l=s->Ca E1 21 [.d (aT kk ps),.d (e (v.getD a.f.toNat z)).d,.d (e a.x).d] (.d (e (tm (v.getD a.f.toNat z) a.x)).d,none) /\
   Ca E1 19 [.d (aT kk ps),.d (e (((aI.take j).foldl (kz pl tm z s v) (List.replicate n z)).getD a.t.toNat z)).d,.d (e (tm (v.getD a.f.toNat z) a.x)).d] (.d (e (pl (((aI.take j).foldl (kz pl tm z s v) (List.replicate n z)).getD a.t.toNat z) (tm (v.getD a.f.toNat z) a.x))).d,none)) :
  Ca E1 1534 [.d (mG kk ps sy n bJ fin (aI.map (Ar.d e))),.d (.s 8 (v.map fun x=>(e x).d)),dI s] (.d (.s 8 ((dC pl tm z n aI s v).map fun x=>(e x).d)),none):=by
 obtain⟨bx,hbx⟩:∃ bx,bx=bO kk ps sy n bJ fin (aI.map (Ar.d e)):=⟨_,rfl⟩
 have sA:Ex E1 f1534.body.l (st0 [.d (mG kk ps sy n bJ fin (aI.map (Ar.d e))),.d (.s 8 (v.map fun x=>(e x).d)),dI s,.u,.u,.u,.u,.u,.u,.u] []) (.norm,(st0 [.u,.d (.s 8 (v.map fun x=>(e x).d)),dI s,rL 0,.u,.u,.u,.u,.u,.u] [bx])):=by
  apply e6;rw[hbx];unfold mG bO;simp[f1534]
 rcases Qq0 n with h0|h0
 ·subst h0;have hnil:aI=[]:=by
   cases aI with
   | nil=>rfl
   | cons a l=>have:=hin a aA;omega
  subst hnil;have hv0:v=[]:=Xf2.1 hv;subst hv0;obtain⟨K,t⟩:∃ K,∀ m,CL E1 (K+m) 3537 [.d (aT kk ps),dI 0] []=some (.d (.n 8),none):=⟨100,QW kk ps⟩
  have sB:∃ st',Ex E1 f1534.body.r (st0 (.u::.d (.s 8 [])::dI s::rL 0::qO) [bx]) (.ret,st')/\finish f1534 st'=some (.d (.s 8 []),none):=by
   rw[hbx];clear sA hbx hc;unfold bO aT at*;generalize LK .i64 ps=l9 at*;refine⟨_,Ex.of (n:=K+200) (by
    simp[aC,f1534,t];rfl),?_⟩
   simp[finish,show f1534.res=[.var 4] from rfl,show f1534.ref=false from rfl]
  obtain⟨st',e1,e2⟩:=sB;exact Ca.body (o:=.ret) rfl (k1534:E1.fn _=_) rfl (sA.seq e1) aA e2
 ·obtain⟨N,t⟩:=QV kk ps (e z) n ae h0 hz;obtain⟨r,h1,L,h2,k0,k1⟩:=Ex.fold (E:=E1) (b:=snL) aI (kz pl tm z s v) (List.replicate n z)
   (fun j acc st=>acc.length=n/\∃ L,st=OL (v.map fun x=>(e x).d) s 2 (n-1) n j .u L/\L[0]?=some bx/\L[2]?=some (.row (n-1) 8 (acc.map fun x=>(e x).d)))
   (fun acc r=>∃ L,r=(.exit 0,OL (v.map fun x=>(e x).d) s 2 (n-1) n aI.length (dB false) L)/\L[0]?=some bx/\L[2]?=some (.row (n-1) 8 (acc.map fun x=>(e x).d)))
   (fun j a st hj ⟨g0,L,hst,g1,g2⟩=>by
    subst hst;obtain⟨⟨a1,a2⟩,a3,a4⟩:=hin a (Qa2 hj);obtain⟨b,hb,k⟩:=Wm (e:=e) kk ps sy n bJ fin aI ae v s 2 (n-1) n j ae L a hj a.f.toNat a.t.toNat ae ae (hbx ▸ g1) _ g0 g2 (v.getD a.f.toNat z) _ (tm (v.getD a.f.toNat z) a.x) _ (getD_at ae) (getD_at (z:=z) ae) (fun h=>(hc j a hj h).1) (fun h=>(hc j a hj h).2);have l2:2<L.length:=(bq g2)
    refine⟨_,k,by rw[Dj];exact g0,_,rfl,?_,?_⟩
    ·split
     ·rw[Qa0 (by simp;omega),Qd0 ae];exact g1
     ·rw[Qa0 ae];exact g1
    ·unfold kz;split
     ·rw[Qa0 (by simpa using l2),Qf0 l2]
     ·rw[Qa0 l2];exact g2)
   (fun st ⟨g0,L,hst,g1,g2⟩=>by
    subst hst;have:=ZY kk ps sy n bJ fin (aI.map (Ar.d e)) (v.map fun x=>(e x).d) s 2 (n-1) n L (hbx ▸ g1);rw[show(aI.map (Ar.d e)).length=aI.length by simp]at this;exact⟨_,this,aA,L,rfl,g1,g2⟩)
   (st:=OL (v.map fun x=>(e x).d) s 2 (n-1) n 0 .u [bx,aG kk ps,.row (n-1) 8 (List.replicate n (e z).d)]) ⟨Xi1,_,rfl,rfl,by simp[List.map_replicate]⟩
  subst h2
  change L[2]?=some (.row (n-1) 8 ((dC pl tm z n aI s v).map fun x=>(e x).d)) at k1
  have hsl:((dC pl tm z n aI s v).map fun x=>(e x).d).length=n:=by rw[Ql0,oK]
  generalize (dC pl tm z n aI s v).map (fun x=>(e x).d)=rs at*;generalize (v.map fun x=>(e x).d)=vd at*;clear hc;have sB:Ex E1 f1534.body.r.l (st0 (.u::.d (.s 8 vd)::dI s::rL 0::qO) [bx]) (.norm,(st0 (.u::.d (.s 8 vd)::dI s::rL 0::.u::.ls (.loc 2) (n-1) 8 0 n::vR) [bx,aG kk ps,.row (n-1) 8 (List.replicate n (e z).d)])):=by
   refine Ex.of (n:=N+100) ?_;clear h1 sA;rw[hbx];generalize List.replicate n (e z).d=zs at*;unfold bO aT aG at*;generalize aI.map (Ar.d e)=x3 at*;simp[f1534,t,FV.shift,FV.f_,ah.shift]
  have sC := nx sB f1534.body.r.r.l.l (OL vd s 2 (n-1) n 0 .u [bx,aG kk ps,.row (n-1) 8 (List.replicate n (e z).d)]) (by
   apply e6;unfold OL;rw[show((0:Nat):Int)=0 from rfl];simp[f1534])
  have sD:∃ st',Ex E1 f1534.body.r.r.r (OL vd s 2 (n-1) n aI.length (dB false) L) (.ret,st')/\finish f1534 st'=some (.d (.s 8 rs),none):=by
   clear h1 sA sB sC t;have l2:2<L.length:=(bq k1)
   have i2:=idx k1;have tk:rs.take n=rs:=by rw[<-hsl,Qn0]
   refine⟨_,Ex.of (n:=60) (by unfold OL;simp[f1534];rfl),?_⟩;simp[finish,show f1534.res=[.var 4] from rfl,show f1534.ref=false from rfl,k1,i2,l2,hsl,tk,ah.view]
  obtain⟨st',e1,e2⟩:=sD;exact Ca.body (o:=.ret) rfl (k1534:E1.fn _=_) rfl (sA.seq (sB.seq (Ex.seq (sC.seq (Ex.block h1)) e1))) aA e2
end Fi.S
noncomputable section
namespace Fi.S
open Go Fi
set_option maxHeartbeats 8000000
set_option maxRecDepth 10000
variable {α:Type} {e:α->W}
def uq (pl tm:α->α->α)(z:α)(v w:List α):α:=(v.zip w).foldl (fun acc p=>pl acc (tm p.1 p.2)) z
def wcX (w:W):ah:=.box (w.d.cells.map .d)
def wX0:ah:=.box [dB false,.d (.n 1),.d (.n 1),dI 0,dB false,.d (.v (.int .u64 0)),.d (.n 6),.d (.n 8)]
def doL:aF:=f1532.body.r.r.l.r.bl.lp
def XE (kk:Int)(ps:List Int)(v w:List D)(acc:W)(j:Nat)(t:FV):St :=
 (st0 [.u,.d (.s 8 v),.d (.s 8 w),rL 0,rL 1,rL 2,dI j,t] [aG kk ps,wX0,wcX acc])
theorem Wn (kk:Int)(ps:List Int)(v w:List α)(n j:Nat)(hn:n<=1000000)(hv:v.length=n)(hw:w.length=n)(acc x y:α)(hx:v[j]?=some x)(hy:w[j]?=some y)(p q:α)
  (c1:Ca E1 21 [.d (aT kk ps),.d (e x).d,.d (e y).d] (.d (e p).d,none)) (c2:Ca E1 19 [.d (aT kk ps),.d (e acc).d,.d (e p).d] (.d (e q).d,none)) :
  Ex E1 doL (XE kk ps (v.map fun x=>(e x).d) (w.map fun x=>(e x).d) (e acc) j .u) (.norm,XE kk ps (v.map fun x=>(e x).d) (w.map fun x=>(e x).d) (e q) (j+1) .u):=by
 have hj:j<v.length:=(bq hx)
 have hj0:(0:Int)<=(j:Int):=ae;have aR:ai .i64 ((j:Int)+1)=(j:Int)+1:=wrap_i64 ae;have hk1:((j+1:Nat):Int)=(j:Int)+1:=ae;have e1:(v.map fun x=>(e x).d)[j]?=some (e x).d:=by simp[hx]
 have e2:(w.map fun x=>(e x).d)[j]?=some (e y).d:=by simp[hy]
 have l1:(v.map fun x=>(e x).d).length=n:=by simpa using hv
 have l2:(w.map fun x=>(e x).d).length=n:=by simpa using hw
 have hjn:(j:Int)<(n:Int):=ae;obtain⟨K,hK,t1,t2⟩:=(c1.j c2.any).at 0;obtain⟨vs,Qg,Qh,vc,vb,vu,vp,vq,ex⟩:=(e x).aN;obtain⟨rs,rl1,rl2,rc,rb,ru,rp,rq,ey⟩:=(e y).aN;obtain⟨ps',pl1,U_,pc,pb,pu,pp,pq,ep⟩:=(e p).aN;obtain⟨qs',ql1,ql2,qc,qb,qu,qp,qq,eq⟩:=(e q).aN;obtain⟨as',al1,al2,ac,ab,au,ap,aq,ea⟩:=(e acc).aN;unfold XE wcX wX0;rw[hk1];rw[ex]at e1 t1;rw[ey]at e2 t1;rw[ep]at t1 t2;rw[eq]at t2 ⊢;rw[ea]at t2 ⊢;clear c1 c2 ex ey ep eq ea;unfold aG aT wD at*;generalize (v.map fun x=>(e x).d)=vd,(w.map fun x=>(e x).d)=wd at*;have i1:=idx e1;have i2:=idx e2;have q1:j<vd.length:=ae;have q2:j<wd.length:=ae;refine Ex.of (n:=K+300) ?_;simp (maxSteps:=400000) [doL,f1532,hj0,hjn,aR,t1,t2,e1,e2,i1,i2,q1,q2,l1,l2]
theorem adt (kk:Int)(ps:List Int)(v w:List α)(n:Nat)(hn:n<=100000)(hv:v.length=n)(hw:w.length=n)(pl tm:α->α->α)(z:α)(hz:Ca E1 35 [.d (aT kk ps)] (.d (e z).d,none))
  (hc:∀ (j:Nat) (x y:α),v[j]?=some x->w[j]?=some y->Ca E1 21 [.d (aT kk ps),.d (e x).d,.d (e y).d] (.d (e (tm x y)).d,none)/\Ca E1 19 [.d (aT kk ps),.d (e (uq pl tm z (v.take j) (w.take j))).d,.d (e (tm x y)).d] (.d (e (pl (uq pl tm z (v.take j) (w.take j)) (tm x y))).d,none)) :
  Ca E1 1532 [.d (aT kk ps),.d (.s 8 (v.map fun x=>(e x).d)),.d (.s 8 (w.map fun x=>(e x).d))] (.d (e (uq pl tm z v w)).d,none):=by
 have hs:∀ j,j<n->uq pl tm z (v.take (j+1)) (w.take (j+1))=pl (uq pl tm z (v.take j) (w.take j)) (tm (v.getD j z) (w.getD j z)):=fun j hj=>by
  unfold uq;rw[Qj1 ae,Qj1 ae,List.zip_append (by simp;omega),Xj1,Qk2,Qk2,Qa1 ae,Qa1 ae];rfl
 obtain⟨r,h1,h2⟩:=Ex.inv (E:=E1) (b:=doL) (fun j:Nat=>XE kk ps (v.map fun x=>(e x).d) (w.map fun x=>(e x).d) (e (uq pl tm z (v.take j) (w.take j))) j .u) (fun j=>n-j) (fun j=>j<=n) (fun r=>r=(.exit 0,XE kk ps (v.map fun x=>(e x).d) (w.map fun x=>(e x).d) (e (uq pl tm z v w)) n (dB false))) (fun j hj=>by
  rcases Qg1 j n with h|h
  ·have g1:v[j]?=some (v.getD j z):=getD_at ae;have g2:w[j]?=some (w.getD j z):=getD_at ae;obtain⟨c1,c2⟩:=hc j _ _ g1 g2;have k:=Wn (e:=e) kk ps v w n j ae hv hw _ _ _ g1 g2 _ _ c1 c2;rw[<-hs j h]at k;exact .inl ⟨j+1,k,ae,ae⟩
  ·obtain rfl:j=n:=ae;refine .inr ⟨_,Ex.of (n:=60) ?_,aA,rfl⟩;have l1:(v.map fun x=>(e x).d).length=j:=by simpa using hv
   rw[Qe1 ae,Qe1 ae];unfold XE;generalize (v.map fun x=>(e x).d)=vd,(w.map fun x=>(e x).d)=wd at*;simp[doL,f1532,l1]) 0 ae
 subst h2;obtain⟨N,t⟩:=hz.get;rw[show uq pl tm z (v.take 0) (w.take 0)=z from rfl]at h1;generalize uq pl tm z v w=rr,(v.map fun x=>(e x).d)=vd,(w.map fun x=>(e x).d)=wd at*;have sA:Ex E1 f1532.body.l (st0 (.d (aT kk ps)::.d (.s 8 vd)::.d (.s 8 wd)::lI) []) (.norm,(st0 [.u,.d (.s 8 vd),.d (.s 8 wd),rL 0,rL 1,.u,.u,.u] [aG kk ps,wX0])):=by
  apply e6;unfold aT aG wX0;simp[f1532]
 have sB := nx sA f1532.body.r.l (st0 [.u,.d (.s 8 vd),.d (.s 8 wd),rL 0,rL 1,rL 2,.u,.u] [aG kk ps,wX0,wcX (e z)]) (by
  refine Ex.of (n:=N+60) ?_;clear h1 sA hc;obtain⟨vs,Qg,Qh,vc,vb,vu,vp,vq,ex⟩:=(e z).aN;unfold wcX wX0;rw[ex]at t ⊢;unfold aG aT wD at*;generalize LK .i64 ps=l9 at*;simp[f1532,t])
 have sC := nx sB f1532.body.r.r.l.l (XE kk ps vd wd (e z) 0 .u) (by
  apply e6;unfold XE;rw[show((0:Nat):Int)=0 from rfl];simp[f1532])
 have sD:∃ st',Ex E1 f1532.body.r.r.r (XE kk ps vd wd (e rr) n (dB false)) (.ret,st')/\finish f1532 st'=some (.d (e rr).d,none):=by
  clear h1 sA sB sC hc t;obtain⟨vs,Qg,Qh,vc,vb,vu,vp,vq,ex⟩:=(e rr).aN;unfold XE wcX wX0;rw[ex];unfold aG wD at*;refine⟨_,Ex.of (n:=60) (by simp[f1532];rfl),?_⟩;simp[finish,show f1532.res=[.cell 4 true 8] from rfl,show f1532.ref=false from rfl]
 obtain⟨st',e1,e2⟩:=sD;exact Ca.body (o:=.ret) rfl (aM 1532 f1532:E1.fn _=_) rfl (sA.seq (sB.seq (Ex.seq (sC.seq (Ex.block h1)) e1))) aA e2
def pnL:aF:=f1535.body.r.r.l.r.bl.lp
def pnS (es:List D)(j:Nat)(t:FV)(L:List ah):St:=(st0 [.u,.u,.u,.d (.s 11 es),dI j,t,.u] L)
theorem Wo (kk:Int)(ps:List Int)(sy st:Int)(bJ fin es:List D)(l:List (Ar α))(hn:l.length<=100000)(h:Ca E1 1089 [.d (aT kk ps),.d (.s 11 es)] (.d (.s 11 (l.map (Ar.d e))),none))(h0:∀ a ∈ l,a.l≠0):Ca E1 1535 [.d (mG kk ps sy st bJ fin es)] (dB true,none):=by
 obtain⟨N,t⟩:=h.get;obtain⟨bx,hbx⟩:∃ bx,bx=bO kk ps sy st bJ fin es:=⟨_,rfl⟩
 have hel:(l.map (Ar.d e)).length=l.length:=aA;obtain⟨r,h1,h2⟩:=Ex.inv (E:=E1) (b:=pnL) (fun j:Nat=>pnS (l.map (Ar.d e)) j .u [bx]) (fun j=>l.length-j) (fun j=>j<=l.length) (fun r=>r=(.exit 0,pnS (l.map (Ar.d e)) l.length (dB false) [bx])) (fun j hj=>by
  rcases Qg1 j l.length with g|g
  ·have ga:l[j]?=some l[j]:=Qa1 g;have e1:(l.map (Ar.d e))[j]?=some (l[j].d e):=by simp[ga]
   have hl:=h0 _ (Qi0 g);generalize l[j]=a at*;have hl2:(a.l==0)=false:=by rw[beq_eq_false_iff_ne];exact hl
   have hj0:(0:Int)<=(j:Int):=ae;have hjl:(j:Int)<(l.length:Int):=ae;have aR:ai .i64 ((j:Int)+1)=(j:Int)+1:=wrap_i64 ae;have hk1:((j+1:Nat):Int)=(j:Int)+1:=ae;refine .inl ⟨j+1,Ex.of (n:=100) ?_,ae,ae⟩;obtain⟨s,l1,l3,c,b,u',q,ps',ew,ed⟩:=a.gD e;rw[ed]at e1;unfold tX at e1;unfold pnS;rw[hk1];generalize l.map (Ar.d e)=xs at*;have i1:=idx e1;have q1:j<xs.length:=ae;simp[pnL,f1535,hj0,hjl,hel,aR,e1,i1,q1,hl,hl2]
  ·obtain rfl:j=l.length:=ae;refine .inr ⟨_,Ex.of (n:=60) ?_,aA,rfl⟩;unfold pnS;simp[pnL,f1535]) 0 ae
 subst h2;generalize l.map (Ar.d e)=xs at*;have sA:Ex E1 f1535.body.l (st0 (.d (mG kk ps sy st bJ fin es)::qO) []) (.norm,(st0 (.u::rL 0::lI) [bx])):=by
  apply e6;rw[hbx];unfold mG bO;simp[f1535]
 have sB := nx sA f1535.body.r.l (st0 [.u,.u,.u,.d (.s 11 xs),.u,.u,.u] [bx]) (by
  refine Ex.of (n:=N+60) ?_;clear h1 sA;rw[hbx];unfold bO aT at*;simp[f1535,t])
 have sC := nx sB f1535.body.r.r.l.l (pnS xs 0 .u [bx]) (by
  apply e6;unfold pnS;rw[show((0:Nat):Int)=0 from rfl];simp[f1535])
 have sD:∃ st',Ex E1 f1535.body.r.r.r (pnS xs l.length (dB false) [bx]) (.ret,st')/\finish f1535 st'=some (dB true,none):=by
  refine⟨_,Ex.of (n:=60) (by unfold pnS;simp[f1535];rfl),?_⟩;simp[finish,show f1535.res=[.var 2] from rfl,show f1535.ref=false from rfl]
 obtain⟨st',e1,e2⟩:=sD;exact Ca.body (o:=.ret) rfl (aM 1535 f1535:E1.fn _=_) rfl (sA.seq (sB.seq (Ex.seq (sC.seq (Ex.block h1)) e1))) aA e2
end Fi.S
noncomputable section
namespace Fi.S
open Go Fi
set_option maxHeartbeats 8000000
set_option maxRecDepth 10000
variable {α:Type} {e:α->W}
def adu:aF:=f1536.body.r.r.l.r.bl.lp
def J3 (w:List D)(sy:Int)(j:Nat)(t:FV):St:=(st0 [.d (.s 1 w),dI sy,.u,dI j,.u,t,.u] [])
theorem Wp (w:List Int)(sy:Int)(h1:1<=sy/\sy<=32)(hl:w.length<=256)(hw:∀ x ∈ w,1<=x/\x<=sy):Ca E1 1536 [.d (.s 1 (LK .i64 w)),dI sy] (dB true,none):=by
 have hel:(LK .i64 w).length=w.length:=by simp[LK]
 obtain⟨r,h2,h3⟩:=Ex.inv (E:=E1) (b:=adu) (fun j:Nat=>J3 (LK .i64 w) sy j .u) (fun j=>w.length-j) (fun j=>j<=w.length) (fun r=>r=(.exit 0,J3 (LK .i64 w) sy w.length (dB false))) (fun j hj=>by
  rcases Qg1 j w.length with g|g
  ·have ga:w[j]?=some w[j]:=Qa1 g;have e1:(LK .i64 w)[j]?=some (vI w[j]):=by simp[LK,ga]
   obtain⟨x1,x2⟩:=hw _ (Qi0 g);generalize w[j]=x at*;have hj0:(0:Int)<=(j:Int):=ae;have hjl:(j:Int)<(w.length:Int):=ae;have aR:ai .i64 ((j:Int)+1)=(j:Int)+1:=wrap_i64 ae;have hk1:((j+1:Nat):Int)=(j:Int)+1:=ae;have y1:¬ x<1:=ae;have y2:¬ sy<x:=ae;refine .inl ⟨j+1,Ex.of (n:=100) ?_,ae,ae⟩;unfold J3;rw[hk1];generalize LK .i64 w=xs at*;have i1:=idx e1;have q1:j<xs.length:=ae;simp[adu,f1536,hj0,hjl,hel,aR,e1,i1,q1,y1,y2,x1,x2]
  ·obtain rfl:j=w.length:=ae;refine .inr ⟨_,Ex.of (n:=60) ?_,aA,rfl⟩;unfold J3;generalize LK .i64 w=xs at*;simp[adu,f1536,hel]) 0 ae
 subst h3;have t:=fun m=>wY m sy
 have hb:Ac sy 1 32=true:=by unfold Ac;simp;omega
 rw[hb]at t;have hl2:¬ (256:Int)<(w.length:Int):=ae;have hl3:w.length<=256:=hl;generalize LK .i64 w=xs at*;have sA:Ex E1 f1536.body.l (st0 (.d (.s 1 xs)::dI sy::lI) []) (.norm,(st0 (.d (.s 1 xs)::dI sy::lI) [])):=by
  apply e6;simp[f1536]
 obtain⟨K,tK⟩:∃ K,∀ m,CL E1 (K+m) 1040 [dI sy] []=some (dB true,none):=⟨100,fun m=>by rw[show 100+m=m+100 by omega];exact t m⟩
 have sB := nx sA f1536.body.r.l (st0 [.d (.s 1 xs),dI sy,.u,.u,dB false,.u,.u] []) (by
  refine Ex.of (n:=K+60) ?_;clear h2 t;simp[f1536,tK,hel,hl2,hl3])
 have sC := nx sB f1536.body.r.r.l.l (J3 xs sy 0 .u) (by
  apply e6;unfold J3;rw[show((0:Nat):Int)=0 from rfl];simp[f1536])
 have sD:∃ st',Ex E1 f1536.body.r.r.r (J3 xs sy w.length (dB false)) (.ret,st')/\finish f1536 st'=some (dB true,none):=by
  refine⟨_,Ex.of (n:=60) (by unfold J3;simp[f1536];rfl),?_⟩;simp[finish,show f1536.res=[.var 2] from rfl,show f1536.ref=false from rfl]
 obtain⟨st',e1,e2⟩:=sD;exact Ca.body (o:=.ret) rfl (aM 1536 f1536:E1.fn _=_) rfl (sA.seq (sB.seq (Ex.seq (sC.seq (Ex.block h2)) e1))) aA e2
theorem QX (kk:Int)(ps:List Int)(sy st:Int)(bJ fin es:List D)(w:List D)(h1:Ca E1 1020 [.d (mG kk ps sy st bJ fin es)] (dB true,none))(h2:Ca E1 1535 [.d (mG kk ps sy st bJ fin es)] (dB true,none))(h3:Ca E1 1536 [.d (.s 1 w),dI sy] (dB true,none)) :
  Ca E1 1533 [.d (mG kk ps sy st bJ fin es),.d (.s 1 w)] (dI 0,none):=by
 obtain⟨K,hK,t1,t2,t3⟩:=(h1.j (h2.j h3.any)).at 0;refine Ca.bP (n:=K+200) ?_;rw[av rfl (aM 1533 f1533:E1.fn _=_) rfl];clear h1 h2 h3;unfold mG at*;simp[f1533,t1,t2,t3]
def iZ (El:Int->List α->List α)(v:List α)(w:List Int):List α:=w.foldl (fun v s=>El s v) v
theorem J4 {El:Int->List α->List α}{n:Nat}(h:∀ s v,(El s v).length=n){v:List α}(hv:v.length=n):∀ w:List Int,(iZ El v w).length=n:=by
 intro w;unfold iZ
 induction w generalizing v with
 | nil=>exact hv
 | cons x r ih=>exact ih (h x v)
def fwL:aF:=f1531.body.r.r.r.l.r.bl.lp
def fwS (A:ah)(w v:List D)(j:Nat)(t:FV):St:=(st0 [.u,.d (.s 1 w),rL 0,.u,.u,.u,.d (.s 8 v),dI j,.u,t] [A])
theorem MV (kk:Int)(ps:List Int)(sy st:Int)(bJ:List α)(fin es:List D)(es2:List D)(ai8:List D)(w:List Int)(hw:w.length<=1000)(El:Int->List α->List α)(h1:Ca E1 1533 [.d (mG kk ps sy st (bJ.map fun x=>(e x).d) fin es),.d (.s 1 (LK .i64 w))] (dI 0,none))
  (h2:Ca E1 1044 [.d (mG kk ps sy st (bJ.map fun x=>(e x).d) fin es)] (.d (mG kk ps sy st (bJ.map fun x=>(e x).d) ai8 es2),none))
  (hc:∀ (j:Nat) (s:Int),w[j]?=some s->Ca E1 1534 [.d (mG kk ps sy st (bJ.map fun x=>(e x).d) fin es),.d (.s 8 ((iZ El bJ (w.take j)).map fun x=>(e x).d)),dI s] (.d (.s 8 ((El s (iZ El bJ (w.take j))).map fun x=>(e x).d)),none)) :
  Ca E1 1531 [.d (mG kk ps sy st (bJ.map fun x=>(e x).d) fin es),.d (.s 1 (LK .i64 w))] (.d (.t [.s 8 ((iZ El bJ w).map fun x=>(e x).d),vI 0]),none):=by
 obtain⟨bx,hbx⟩:∃ bx,bx=bO kk ps sy st (bJ.map fun x=>(e x).d) fin es:=⟨_,rfl⟩
 have hel:(LK .i64 w).length=w.length:=by simp[LK]
 obtain⟨r,g1,g2⟩:=Ex.inv (E:=E1) (b:=fwL) (fun j:Nat=>fwS bx (LK .i64 w) ((iZ El bJ (w.take j)).map fun x=>(e x).d) j .u) (fun j=>w.length-j) (fun j=>j<=w.length) (fun r=>r=(.exit 0,fwS bx (LK .i64 w) ((iZ El bJ w).map fun x=>(e x).d) w.length (dB false))) (fun j hj=>by
  rcases Qg1 j w.length with g|g
  ·have ga:w[j]?=some w[j]:=Qa1 g;have e1:(LK .i64 w)[j]?=some (vI w[j]):=by simp[LK,ga]
   obtain⟨N,t⟩:=(hc j _ ga).get;have hs:iZ El bJ (w.take (j+1))=El w[j] (iZ El bJ (w.take j)):=by
    unfold iZ;rw[Qj1 g,Xj1];rfl
   rw[<-hs]at t;generalize w[j]=x at*;have hj0:(0:Int)<=(j:Int):=ae;have hjl:(j:Int)<(w.length:Int):=ae;have aR:ai .i64 ((j:Int)+1)=(j:Int)+1:=wrap_i64 ae;have hk1:((j+1:Nat):Int)=(j:Int)+1:=ae;refine .inl ⟨j+1,Ex.of (n:=N+100) ?_,ae,ae⟩;unfold fwS;rw[hk1,hbx];clear hs h1 h2 hc;generalize (iZ El bJ (w.take (j+1))).map (fun x=>(e x).d)=v2 at*;generalize (iZ El bJ (w.take j)).map (fun x=>(e x).d)=v1 at*;generalize (bJ.map fun x=>(e x).d)=is,LK .i64 w=xs at*;have i1:=idx e1;have q1:j<xs.length:=ae;unfold mG bO at*;generalize LK .i64 ps=l9 at*;simp[fwL,f1531,hj0,hjl,hel,aR,e1,i1,q1,t]
  ·obtain rfl:j=w.length:=ae;refine .inr ⟨_,Ex.of (n:=60) ?_,aA,rfl⟩;rw[Qn0];unfold fwS;generalize LK .i64 w=xs at*;simp[fwL,f1531,hel]) 0 ae
 subst g2;rw[show iZ El bJ (w.take 0)=bJ from rfl]at g1;generalize (iZ El bJ w).map (fun x=>(e x).d)=vr at*;clear hc;obtain⟨K,hK,t1,t2⟩:=(h1.j h2.any).at 0;generalize (bJ.map fun x=>(e x).d)=is,LK .i64 w=xs at*;have sA:Ex E1 f1531.body.l (st0 (.d (mG kk ps sy st is fin es)::.d (.s 1 xs)::zZ) []) (.norm,(st0 (.u::.d (.s 1 xs)::rL 0::sO) [bx])):=by
  apply e6;rw[hbx];unfold mG bO;simp[f1531]
 have sB := nx sA f1531.body.r.l (st0 [.u,.d (.s 1 xs),rL 0,.u,.u,dI 0,.u,.u,dB false,.u] [bx]) (by
  refine Ex.of (n:=K+60) ?_;clear g1 sA h1 h2 t2;rw[hbx];unfold mG bO at*;generalize LK .i64 ps=l9 at*;simp[f1531,t1])
 have sC := nx sB f1531.body.r.r.l (st0 [.u,.d (.s 1 xs),rL 0,.u,.u,.u,.d (.s 8 is),.u,.u,.u] [bx]) (by
  refine Ex.of (n:=K+60) ?_;clear g1 sA sB h1 h2 t1;rw[hbx];unfold mG bO at*;simp[f1531,t2])
 have sD := nx sC f1531.body.r.r.r.l.l (fwS bx xs is 0 .u) (by
  apply e6;unfold fwS;rw[show((0:Nat):Int)=0 from rfl];simp[f1531])
 have sE:∃ st',Ex E1 f1531.body.r.r.r.r (fwS bx xs vr w.length (dB false)) (.ret,st')/\finish f1531 st'=some (.d (.t [.s 8 vr,vI 0]),none):=by
  refine⟨_,Ex.of (n:=60) (by unfold fwS;simp[f1531];rfl),?_⟩;simp[finish,show f1531.res=[.var 3,.var 4] from rfl,show f1531.ref=false from rfl,uz]
 obtain⟨st',e1,e2⟩:=sE;exact Ca.body (o:=.ret) rfl (aM 1531 f1531:E1.fn _=_) rfl (sA.seq (sB.seq (sC.seq (Ex.seq (sD.seq (Ex.block g1)) e1)))) aA e2
theorem MW (kk:Int)(ps:List Int)(sy st:Int)(bJ fin es:List D)(w v:List D)(q:W)(h1:Ca E1 1531 [.d (mG kk ps sy st bJ fin es),.d (.s 1 w)] (.d (.t [.s 8 v,vI 0]),none))(h2:Ca E1 1532 [.d (aT kk ps),.d (.s 8 v),.d (.s 8 fin)] (.d q.d,none)) :
  Ca E1 1530 [.d (mG kk ps sy st bJ fin es),.d (.s 1 w)] (.d (.t [q.d,vI 0]),none):=by
 obtain⟨K,hK,t1,t2⟩:=(h1.j h2.any).at 0;obtain⟨vs,Qg,Qh,vc,vb,vu,vp,vq,ex⟩:=q.aN;rw[ex]at t2 ⊢;refine Ca.bP (n:=K+200) ?_;rw[av rfl (aM 1530 f1530:E1.fn _=_) rfl];clear h1 h2;unfold mG aT wD at*;simp[f1530,t1,t2,uz]
end Fi.S
