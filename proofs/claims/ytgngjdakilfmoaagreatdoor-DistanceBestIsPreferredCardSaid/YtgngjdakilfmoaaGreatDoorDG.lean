import Derived.Test.YtgngjdakilfmoaaGreatDoorDE
import Derived.Test.YtgngjdakilfmoaaGreatDoorDC
set_option linter.unusedVariables false
set_option linter.unusedSimpArgs false
noncomputable section
namespace Fi.S
open Go Fi
set_option maxHeartbeats 8000000
set_option maxRecDepth 10000
def sel {β:Type}(m:List Bool)(l:List β):List β:=((l.zip m).filter (·.2)).map (·.1)
end Fi.S
noncomputable section
namespace Fi.S
open Go Fi
set_option maxHeartbeats 8000000
set_option maxRecDepth 10000
variable {α:Type} {e:α->W}
end Fi.S
noncomputable section
namespace Fi.S
open Go Fi
set_option maxHeartbeats 8000000
section sel
variable {β:Type}
end sel
section trim
variable {α:Type} {dS:α->Bool} {pl:α->α->α}
variable {bg fin:List α} {l:List (Ar α)} {n:Nat}
end trim
end Fi.S
noncomputable section
namespace Fi.S
open Go Fi
set_option maxHeartbeats 8000000
set_option maxRecDepth 10000
variable {α:Type} {e:α->W}
def xW (pl tm:α->α->α)(z:α)(s:Int)(v out:List α)(a:Ar α):List α:=if a.l=s then out.set a.t.toNat (pl (out.getD a.t.toNat z) (tm (v.getD a.f.toNat z) a.x)) else out
def Gs (pl tm:α->α->α)(z:α)(n:Nat)(aJ:List (Ar α))(s:Int)(v:List α):List α:=aJ.foldl (xW pl tm z s v) (List.replicate n z)
theorem Ej (pl tm:α->α->α)(z:α)(s:Int)(v out:List α)(a:Ar α):(xW pl tm z s v out a).length=out.length:=by unfold xW;split<;>simp
theorem PX (pl tm:α->α->α)(z:α)(s:Int)(v:List α):∀ (l:List (Ar α)) (out:List α),(l.foldl (xW pl tm z s v) out).length=out.length
 | [],_=>rfl
 | a::l,out=>by rw[Ql1,PX pl tm z s v l,Ej]
theorem zI (pl tm:α->α->α)(z:α)(n:Nat)(aJ:List (Ar α))(s:Int)(v:List α):(Gs pl tm z n aJ s v).length=n:=by unfold Gs;rw[PX,Q61]
theorem getD_at {β:Type}{l:List β}{i:Nat}{z:β}(h:i<l.length):l[i]?=some (l.getD i z):=by
 rw[Qj0,Qa1 h];rfl
end Fi.S
noncomputable section
namespace Fi.S
open Go Fi
set_option maxHeartbeats 8000000
set_option maxRecDepth 10000
variable {α:Type} {e:α->W}
def N8 (pl tm:α->α->α)(z:α)(v w:List α):α:=(v.zip w).foldl (fun acc p=>pl acc (tm p.1 p.2)) z
def wcX (w:W):ah:=.box (w.d.cells.map .d)
def wX0:ah:=.box [dB false,.d (.n 1),.d (.n 1),dI 0,dB false,.d (.v (.int .u64 0)),.d (.n 6),.d (.n 8)]
def doL:aF:=f1532.body.r.r.l.r.bl.lp
def doS (kk:Int)(ps:List Int)(v w:List D)(acc:W)(j:Nat)(t:FV):St :=
 (st0 [.u,.d (.s 8 v),.d (.s 8 w),rL 0,rL 1,rL 2,dI j,t] [aR kk ps,wX0,wcX acc])
theorem ahw (kk:Int)(ps:List Int)(v w:List α)(n j:Nat)(hn:n<=1000000)(hv:v.length=n)(hw:w.length=n)(acc x y:α)(hx:v[j]?=some x)(hy:w[j]?=some y)(p q:α)
  (c1:Ca E1 21 [.d (aU kk ps),.d (e x).d,.d (e y).d] (.d (e p).d,none)) (c2:Ca E1 19 [.d (aU kk ps),.d (e acc).d,.d (e p).d] (.d (e q).d,none)) :
  Ex E1 doL (doS kk ps (v.map fun x=>(e x).d) (w.map fun x=>(e x).d) (e acc) j .u) (.norm,doS kk ps (v.map fun x=>(e x).d) (w.map fun x=>(e x).d) (e q) (j+1) .u):=by
 have hj:j<v.length:=(aT hx)
 have hj0:(0:Int)<=(j:Int):=ae;have aW:ak .i64 ((j:Int)+1)=(j:Int)+1:=wrap_i64 ae;have hk1:((j+1:Nat):Int)=(j:Int)+1:=ae;have e1:(v.map fun x=>(e x).d)[j]?=some (e x).d:=by simp[hx]
 have e2:(w.map fun x=>(e x).d)[j]?=some (e y).d:=by simp[hy]
 have l1:(v.map fun x=>(e x).d).length=n:=by simpa using hv
 have l2:(w.map fun x=>(e x).d).length=n:=by simpa using hw
 have hjn:(j:Int)<(n:Int):=ae;obtain⟨K,hK,t1,t2⟩:=(c1.j c2.any).at 0;obtain⟨vs,Hz,HV,vc,vb,vu,vp,vq,ex⟩:=(e x).aH;obtain⟨rs,rl1,rl2,rc,rb,ru,rp,rq,ey⟩:=(e y).aH;obtain⟨ps',pl1,RA,pc,pb,pu,pp,pq,ep⟩:=(e p).aH;obtain⟨qs',ql1,ql2,qc,qb,qu,qp,qq,eq⟩:=(e q).aH;obtain⟨as',al1,al2,ac,ab,au,ap,aq,ea⟩:=(e acc).aH;unfold doS wcX wX0;rw[hk1];rw[ex]at e1 t1;rw[ey]at e2 t1;rw[ep]at t1 t2;rw[eq]at t2 ⊢;rw[ea]at t2 ⊢;clear c1 c2 ex ey ep eq ea;unfold aR aU wD at*;generalize (v.map fun x=>(e x).d)=vd,(w.map fun x=>(e x).d)=wd at*;have i1:=idx e1;have i2:=idx e2;have q1:j<vd.length:=ae;have q2:j<wd.length:=ae;refine Ex.of (n:=K+300) ?_;simp (maxSteps:=400000) [doL,f1532,hj0,hjn,aW,t1,t2,e1,e2,i1,i2,q1,q2,l1,l2]
theorem alE (kk:Int)(ps:List Int)(v w:List α)(n:Nat)(hn:n<=100000)(hv:v.length=n)(hw:w.length=n)(pl tm:α->α->α)(z:α)(hz:Ca E1 35 [.d (aU kk ps)] (.d (e z).d,none))
  (hc:∀ (j:Nat) (x y:α),v[j]?=some x->w[j]?=some y->Ca E1 21 [.d (aU kk ps),.d (e x).d,.d (e y).d] (.d (e (tm x y)).d,none)/\Ca E1 19 [.d (aU kk ps),.d (e (N8 pl tm z (v.take j) (w.take j))).d,.d (e (tm x y)).d] (.d (e (pl (N8 pl tm z (v.take j) (w.take j)) (tm x y))).d,none)) :
  Ca E1 1532 [.d (aU kk ps),.d (.s 8 (v.map fun x=>(e x).d)),.d (.s 8 (w.map fun x=>(e x).d))] (.d (e (N8 pl tm z v w)).d,none):=by
 have hs:∀ j,j<n->N8 pl tm z (v.take (j+1)) (w.take (j+1))=pl (N8 pl tm z (v.take j) (w.take j)) (tm (v.getD j z) (w.getD j z)):=fun j hj=>by
  unfold N8;rw[Qp2 ae,Qp2 ae,List.zip_append (by simp;omega),Xx0,Qj0,Qj0,Qa1 ae,Qa1 ae];rfl
 obtain⟨r,h1,h2⟩:=Ex.inv (E:=E1) (b:=doL) (fun j:Nat=>doS kk ps (v.map fun x=>(e x).d) (w.map fun x=>(e x).d) (e (N8 pl tm z (v.take j) (w.take j))) j .u) (fun j=>n-j) (fun j=>j<=n) (fun r=>r=(.exit 0,doS kk ps (v.map fun x=>(e x).d) (w.map fun x=>(e x).d) (e (N8 pl tm z v w)) n (dB false))) (fun j hj=>by
  rcases Qg0 j n with h|h
  ·have g1:v[j]?=some (v.getD j z):=getD_at ae;have g2:w[j]?=some (w.getD j z):=getD_at ae;obtain⟨c1,c2⟩:=hc j _ _ g1 g2;have k:=ahw (e:=e) kk ps v w n j ae hv hw _ _ _ g1 g2 _ _ c1 c2;rw[<-hs j h]at k;exact .inl ⟨j+1,k,ae,ae⟩
  ·obtain rfl:j=n:=ae;refine .inr ⟨_,Ex.of (n:=60) ?_,aC,rfl⟩;have l1:(v.map fun x=>(e x).d).length=j:=by simpa using hv
   rw[Qe1 ae,Qe1 ae];unfold doS;generalize (v.map fun x=>(e x).d)=vd,(w.map fun x=>(e x).d)=wd at*;simp[doL,f1532,l1]) 0 ae
 subst h2;obtain⟨N,t⟩:=hz.get;rw[show N8 pl tm z (v.take 0) (w.take 0)=z from rfl]at h1;generalize N8 pl tm z v w=rr,(v.map fun x=>(e x).d)=vd,(w.map fun x=>(e x).d)=wd at*;have sA:Ex E1 f1532.body.l (st0 (.d (aU kk ps)::.d (.s 8 vd)::.d (.s 8 wd)::n_) []) (.norm,(st0 [.u,.d (.s 8 vd),.d (.s 8 wd),rL 0,rL 1,.u,.u,.u] [aR kk ps,wX0])):=by
  apply e6;unfold aU aR wX0;simp[f1532]
 have sB := nx sA f1532.body.r.l (st0 [.u,.d (.s 8 vd),.d (.s 8 wd),rL 0,rL 1,rL 2,.u,.u] [aR kk ps,wX0,wcX (e z)]) (by
  refine Ex.of (n:=N+60) ?_;clear h1 sA hc;obtain⟨vs,Hz,HV,vc,vb,vu,vp,vq,ex⟩:=(e z).aH;unfold wcX wX0;rw[ex]at t ⊢;unfold aR aU wD at*;generalize LK .i64 ps=l9 at*;simp[f1532,t])
 have sC := nx sB f1532.body.r.r.l.l (doS kk ps vd wd (e z) 0 .u) (by
  apply e6;unfold doS;rw[show((0:Nat):Int)=0 from rfl];simp[f1532])
 have sD:∃ st',Ex E1 f1532.body.r.r.r (doS kk ps vd wd (e rr) n (dB false)) (.ret,st')/\finish f1532 st'=some (.d (e rr).d,none):=by
  clear h1 sA sB sC hc t;obtain⟨vs,Hz,HV,vc,vb,vu,vp,vq,ex⟩:=(e rr).aH;unfold doS wcX wX0;rw[ex];unfold aR wD at*;refine⟨_,Ex.of (n:=60) (by simp[f1532];rfl),?_⟩;simp[finish,show f1532.res=[.cell 4 true 8] from rfl,show f1532.ref=false from rfl]
 obtain⟨st',e1,e2⟩:=sD;exact Ca.body (o:=.ret) rfl (aO 1532 f1532:E1.fn _=_) rfl (sA.seq (sB.seq (Ex.seq (sC.seq (Ex.block h1)) e1))) aC e2
end Fi.S
noncomputable section
namespace Fi.S
open Go Fi
set_option maxHeartbeats 8000000
set_option maxRecDepth 10000
variable {α:Type} {e:α->W}
end Fi.S
noncomputable section
namespace Fi.S
open Go Fi
set_option maxHeartbeats 8000000
section
variable {α:Type} {P:α->Prop} {pl tm:α->α->α} {z o:α}
def hSt (tm:α->α->α)(z:α)(s:Int)(v:List α)(q:Nat)(a:Ar α):α:=if a.l=s/\a.t.toNat=q then tm (v.getD a.f.toNat z) a.x else z
theorem b_ {l:List α}(pz:P z)(h:∀ x ∈ l,P x)(i:Nat):P (l.getD i z):=by
 rw[Qj0];cases hi:l[i]? with
 | none=>exact pz
 | some x=>exact h x (Qa2 hi)
theorem XF (A:EW P pl tm z o)(s:Int){v:List α}(hv:∀ x ∈ v,P x)(q:Nat){a:Ar α}(ha:P a.x):P (hSt tm z s v q a):=by
 unfold hSt;split
 ·exact A.pt (b_ A.pz hv _) ha
 ·exact A.pz
theorem XG (A:EW P pl tm z o)(s:Int){v out:List α}(hv:∀ x ∈ v,P x)(ho:∀ x ∈ out,P x){a:Ar α}(ha:P a.x):∀ x ∈ xW pl tm z s v out a,P x:=by
 unfold xW;split
 ·intro x hx;rcases Q41 hx with h|rfl
  ·exact ho x h
  ·exact A.pp (b_ A.pz ho _) (A.pt (b_ A.pz hv _) ha)
 ·exact ho
theorem XH (A:EW P pl tm z o)(s:Int){v:List α}(hv:∀ x ∈ v,P x){n:Nat}:∀ (l:List (Ar α)) (out:List α),PA P l->(∀ a ∈ l,a.t.toNat<n)->out.length=n->(∀ x ∈ out,P x) ->
  (∀ x ∈ l.foldl (xW pl tm z s v) out,P x)/\∀ q,q<n->(l.foldl (xW pl tm z s v) out).getD q z=pl (out.getD q z) (sm pl z (l.map (hSt tm z s v q)))
 | [],out,_,_,_,ho=>⟨ho,fun q _=>(A.zero (b_ A.pz ho _)).symm⟩
 | a::l,out,hl,ht,hn,ho=>by
  have ha:=hl a aC;have hl':PA P l:=fun b hb=>hl b (by simp[hb])
  obtain⟨h1,h2⟩:=XH A s hv l (xW pl tm z s v out a) hl' (fun b hb=>ht b (by simp[hb])) (by rw[Ej];exact hn) (XG A s hv ho ha);rw[Ql1];refine⟨h1,fun q hq => ?_⟩;have hm:∀ w ∈ l.map (hSt tm z s v q),P w:=fun w hw=>by
   obtain⟨b,hb,rfl⟩:=Qg1.1 hw;exact XF A s hv q (hl' b hb)
  have px:=XF A s hv q ha;rw[h2 q hq,Qe2,jZ A px hm,<-A.assoc (b_ A.pz ho _) px (zF A hm)]
  congr 1
  unfold xW hSt
  by_cases g:a.l=s
  ·rw[if_pos g]
   by_cases g2:a.t.toNat=q
   ·subst g2;rw[if_pos ⟨g,rfl⟩,Qj0,Qd1 ae];rfl
   ·rw[if_neg (fun h=>g2 h.2),A.zero (b_ A.pz ho _),Qj0,Qb2 g2,<-Qj0]
  ·rw[if_neg g,if_neg (fun h=>g h.1),A.zero (b_ A.pz ho _)]
theorem XI (A:EW P pl tm z o)(s:Int){v:List α}(hv:∀ x ∈ v,P x){n:Nat}{l:List (Ar α)}(hl:PA P l)(ht:∀ a ∈ l,a.t.toNat<n):(∀ x ∈ Gs pl tm z n l s v,P x)/\∀ q,q<n->(Gs pl tm z n l s v).getD q z=sm pl z (l.map (hSt tm z s v q)):=by
 obtain⟨h1,h2⟩:=XH A s hv l (List.replicate n z) hl ht Q61 (fun x hx=>by rw[Xf2 hx];exact A.pz);refine⟨h1,fun q hq => ?_⟩;have hm:∀ w ∈ l.map (hSt tm z s v q),P w:=fun w hw=>by
  obtain⟨b,hb,rfl⟩:=Qg1.1 hw;exact XF A s hv q (hl b hb)
 show(l.foldl (xW pl tm z s v) (List.replicate n z)).getD q z=_;rw[h2 q hq,Qj0,Xh1,if_pos hq];exact A.zl (zF A hm)
variable {dS:α->Bool}
section trim
variable (A:EW P pl tm z o) (hz:∀ x,P x->dS x=true->x=z) {n:Nat} {bg fin:List α} {l:List (Ar α)} (h1:bg.length=n) (h2:fin.length=n) (p1:∀ x ∈ bg,P x) (p2:∀ x ∈ fin,P x) (hl:PA P l) (hin:∀ a ∈ l,(0<=a.f/\a.f<n)/\(0<=a.t/\a.t<n))
include A hz h1 h2 p1 p2 hl hin
end trim
end
end Fi.S
noncomputable section
namespace Fi.S
open Go Fi
set_option maxHeartbeats 8000000
set_option maxRecDepth 10000
section vals
variable {kk:Int} {ps:List Int} (hv:aM kk ps=true)
include hv
end vals
section weight
variable {kk:Int} {ps:List Int} (hv:aM kk ps=true) {sy n:Nat} {bg fin:List (List Sv)} (M:Made kk ps sy n bg fin) {l:List (Ar (List Sv))} (hl:als kk ps sy n l) (hn:n<=4) (w:List Int) (hw:w.length<=4) (hws:∀ x ∈ w,1<=x/\x<=(sy:Int))
include hv M hl hn hw hws
end weight
end Fi.S
noncomputable section
namespace Fi.S
open Go Fi
set_option maxHeartbeats 8000000
set_option maxRecDepth 10000
section plain
variable {α:Type} {pl:α->α->α} {dS:α->Bool}
variable {m:List Bool}
end plain
section trimmed
variable {kk:Int} {ps:List Int} (hv:aM kk ps=true) {sy n:Nat} {bg fin:List (List Sv)} (M:Made kk ps sy n bg fin) {l:List (Ar (List Sv))} (hl:als kk ps sy n l)
include hv M hl
end trimmed
end Fi.S
