import Derived.Test.YtkekcmgkpdkieaaGreatDoorPZeroB
import Derived.Test.YtkekcmgkpdkieaaGreatDoorPZeroC
import Derived.Test.YtkekcmgkpdkieaaGreatDoorPZeroD
import Derived.Test.YtkekcmgkpdkieaaGreatDoorCM
set_option linter.unusedVariables false
set_option linter.unusedSimpArgs false
noncomputable section
namespace Fi.S
open Go Fi
set_option maxHeartbeats 8000000
theorem U7 (k:Int)(ps:List Int)(h:aJ k ps=true):je k ps=true:=by
 have five:∀ {a:Int},single a=true->a ∈ [1,2,3,4,5]:=by
  intro a ha;simp only[single,Qb2,decide_eq_true_eq]at ha;simp only[Qi1,Xr1,or_false];omega
 have main:∀ {f:Int->Bool} {x:Int},([1,2,3,4,5].all f)=true->x ∈ [1,2,3,4,5]->f x=true:=by
  intro f x h1 h2;exact Qf2.1 h1 _ h2
 unfold aJ at h
 by_cases hk:k=6
 ·subst hk;rw[if_neg (by simp)]at h;simp only[Qb2,decide_eq_true_eq,Qf2]at h;obtain⟨⟨h2,h3⟩,hs⟩:=h
  match ps,h2,h3,hs with
  | [a,b],_,_,hs =>
   have ha:=five (hs a (by simp));have hb:=five (hs b (by simp));simp only[Qi1,Xr1,or_false]at ha;rcases ha with rfl|rfl|rfl|rfl|rfl
   ·exact main (f:=fun k=>je 6 [1,k]) (x:=b) aft hb
   ·exact main (f:=fun k=>je 6 [2,k]) (x:=b) afu hb
   ·exact main (f:=fun k=>je 6 [3,k]) (x:=b) afv hb
   ·exact main (f:=fun k=>je 6 [4,k]) (x:=b) afw hb
   ·exact main (f:=fun k=>je 6 [5,k]) (x:=b) afx hb
  | [a,b,c],_,_,hs =>
   have ha:=five (hs a (by simp));have hb:=five (hs b (by simp));have hc:=five (hs c (by simp));simp only[Qi1,Xr1,or_false]at ha hb;rcases ha with rfl|rfl|rfl|rfl|rfl<;>rcases hb with rfl|rfl|rfl|rfl|rfl
   ·exact main (f:=fun k=>je 6 [1,1,k]) (x:=c) acf hc
   ·exact main (f:=fun k=>je 6 [1,2,k]) (x:=c) acg hc
   ·exact main (f:=fun k=>je 6 [1,3,k]) (x:=c) ach hc
   ·exact main (f:=fun k=>je 6 [1,4,k]) (x:=c) aci hc
   ·exact main (f:=fun k=>je 6 [1,5,k]) (x:=c) acj hc
   ·exact main (f:=fun k=>je 6 [2,1,k]) (x:=c) ack hc
   ·exact main (f:=fun k=>je 6 [2,2,k]) (x:=c) acm hc
   ·exact main (f:=fun k=>je 6 [2,3,k]) (x:=c) acn hc
   ·exact main (f:=fun k=>je 6 [2,4,k]) (x:=c) aco hc
   ·exact main (f:=fun k=>je 6 [2,5,k]) (x:=c) acp hc
   ·exact main (f:=fun k=>je 6 [3,1,k]) (x:=c) acr hc
   ·exact main (f:=fun k=>je 6 [3,2,k]) (x:=c) acs hc
   ·exact main (f:=fun k=>je 6 [3,3,k]) (x:=c) acu hc
   ·exact main (f:=fun k=>je 6 [3,4,k]) (x:=c) acv hc
   ·exact main (f:=fun k=>je 6 [3,5,k]) (x:=c) acw hc
   ·exact main (f:=fun k=>je 6 [4,1,k]) (x:=c) acx hc
   ·exact main (f:=fun k=>je 6 [4,2,k]) (x:=c) acy hc
   ·exact main (f:=fun k=>je 6 [4,3,k]) (x:=c) acz hc
   ·exact main (f:=fun k=>je 6 [4,4,k]) (x:=c) acA hc
   ·exact main (f:=fun k=>je 6 [4,5,k]) (x:=c) acB hc
   ·exact main (f:=fun k=>je 6 [5,1,k]) (x:=c) acC hc
   ·exact main (f:=fun k=>je 6 [5,2,k]) (x:=c) acD hc
   ·exact main (f:=fun k=>je 6 [5,3,k]) (x:=c) acE hc
   ·exact main (f:=fun k=>je 6 [5,4,k]) (x:=c) acF hc
   ·exact main (f:=fun k=>je 6 [5,5,k]) (x:=c) acG hc
 ·rw[if_pos hk]at h;simp only[Qb2,decide_eq_true_eq]at h;obtain⟨h1,rfl⟩:=h;exact main (f:=fun k=>je k []) (x:=k) ahT (five h1)
def JC (k:Int)(ps:List Int):W:=if k=6 then fQ (ps.map fun k=>(dF k).w) else(dF k).w
theorem Oy (k:Int):(dF k).w.d=Mx k:=by
 have h1:qs 0=false:=by decide
 have h2:qn 0=[]:=dx;have h3:qd 0=[]:=if_pos rfl;unfold dF Mx
 by_cases a:k=2
 ·subst a;rfl
 ·have e:(k==2)=false:=by simpa using a
  rw[if_neg a,e]
  by_cases b:k=4
  ·rw[if_pos b];rfl
  ·rw[if_neg b]
   by_cases c:k=5
   ·rw[if_pos c];rfl
   ·rw[if_neg c];simp only[Sv.w,W.d,W.ds,h1,h2,h3,LD,LL,PD,Qc0]
theorem Y2 (k:Int)(ps:List Int):(JC k ps).d=U8 k ps:=by
 unfold JC U8
 by_cases h:k=6
 ·rw[if_pos h,if_pos h];have:W.ds (ps.map fun k=>(dF k).w)=ps.map Mx:=by
   rw[W.gX,Q42];exact Xl0 fun x _=>Oy x
  show D.a [.v (.bool false),.s 1 [],.s 1 [],.v (.int .i64 0),.v (.bool false),.v (.int .u64 0),.s 6 [],.s 8 (W.ds (ps.map fun k=>(dF k).w))]=_;rw[this]
 ·rw[if_neg h,if_neg h,Oy]
theorem U9 {k:Int}{ps:List Int}(h:aJ k ps=true):Ca E1 26 [.d (bA k ps)] (.d (JC k ps).d,none):=by
 have h1:=U7 k ps h;unfold je at h1;rw[Qb2]at h1;have h2:=h1.1;split at h2
 ·rename_i z hz;rw[Y2,<-mM h2];exact Ca.fP (Ca.of hz)
 ·cases h2
theorem Y3 {k:Int}{ps:List Int}(h:aJ k ps=true):Ca E1 27 [.d (bA k ps)] (.d (Fj k ps),none)/\Ca E1 20 [.d (bA k ps)] (.d (Fj k ps),none):=by
 obtain⟨K,hK⟩:=Qy;have h1:=U7 k ps h;unfold je at h1;rw[Qb2,Qb2]at h1;obtain⟨_,h2,h3⟩:=h1;refine⟨?_,?_⟩
 ·split at h2
  ·rename_i z hz;rw[<-mM h2];exact Ca.of (Fp hK hz)
  ·cases h2
 ·split at h3
  ·rename_i z hz;rw[<-mM h3];exact Ca.of (Fp hK hz)
  ·cases h3
noncomputable def zL (v:Int):List aZ :=
 if (v.tdiv 5) % 2=1 then gu (bX (rq (v % 5-2) 3)) (iH [(gY ((v.tdiv 10) % 3).toNat,1)] (bX (uF v))) else bX (rq (v % 5-2) 3)
noncomputable def Cn (k v:Int):Sv :=
 if k=1 then .q (uF v) else if k=2 then(if v % 11=10 then .c true 0 else .c false (v % 11)) else if k=3 then .q (rq (v % 7) 6) else if k=4 then .s (v % 16) else .p (zL v)
theorem MB {a b:Int}(ha:a.natAbs<4294967296)(hb:b.natAbs<4294967296)(hb0:b≠0):qz (rq a b)<=1:=by
 unfold rq;refine Qc2 (Bz omK) ?_;have h1:sz a.natAbs<=1:=uL omK;have h2:sz b.natAbs<=1:=uL omK;exact Nat.max_le.2 ⟨h1,h2⟩
theorem AV (v:Int):qz (uF v)<=1:=by
 have h1:=Qn0 v (show(13:Int)≠0 by omega);have h2:=Ql0 v (show(0:Int)<13 by omega);have h3:=Qn0 (v.tdiv 13) (show(3:Int)≠0 by omega);have h4:=Ql0 (v.tdiv 13) (show(0:Int)<3 by omega);exact MB omK omK omK
theorem Co (v:Int):qz (rq (v % 5-2) 3)<=1:=by
 have h1:=Qn0 v (show(5:Int)≠0 by omega);have h2:=Ql0 v (show(0:Int)<5 by omega);exact MB omK omK omK
theorem Cq (i:Nat):PV 1 [(gY i,1)]:=by
 refine⟨Qk1.2 ⟨fun _ h=>(by cases h),List.Pairwise.nil⟩,fun p hp => ?_,fun p hp => ?_,fun p hp => ?_⟩<;>(rw[Q2]at hp;subst hp)
 ·exact(by decide:(1:Rat)≠0)
 ·show bR (gY i)=true;unfold gY;split
  ·decide
  ·split<;>decide
 ·show qz 1<=1;have h:qz 1=max (sz 1) (sz 1):=rfl;rw[h,Bt];decide
theorem yN (x:Rat):(bX x).length<=1:=by unfold bX;split<;>simp
theorem U_ (v:Int):PV 9 (zL v)/\(zL v).length<=2:=by
 have hc:=kg (Co v);have hn:=kg (AV v);have hm:=h_ (a:=[(gY ((v.tdiv 10) % 3).toNat,1)]) omK (Cq _) hn;have hl:=zH [(gY ((v.tdiv 10) % 3).toNat,1)] (bX (uF v));have l1:=yN (uF v);have l2:=yN (rq (v % 5-2) 3);simp only[Qe2,Qr2]at hm hl;unfold zL;split
 ·refine⟨(gI (S:=4) (T:=4) omK omK (hc.mono omK) (hm.mono omK)),?_⟩;have:=zG (bX (rq (v % 5-2) 3)) (iH [(gY ((v.tdiv 10) % 3).toNat,1)] (bX (uF v)));omega
 ·exact⟨hc.mono omK,by omega⟩
theorem Oz {k:Int}(hk:single k=true)(v:Int):(Cn k v).of k 9 2:=by
 unfold Cn;rcases aO hk with rfl|rfl|rfl|rfl|rfl
 ·rw[if_pos rfl];exact⟨.inl rfl,Qc2 (AV v) omK⟩
 ·rw[if_neg (by decide),if_pos rfl];have h1:=Qn0 v (show(11:Int)≠0 by omega);have h2:=Ql0 v (show(0:Int)<11 by omega);split
  ·exact⟨rfl,by decide,by decide,fun _=>rfl⟩
  ·exact⟨rfl,h1,by omega,fun h=>by cases h⟩
 ·rw[if_neg (by decide),if_neg (by decide),if_pos rfl];have h1:=Qn0 v (show(7:Int)≠0 by omega);have h2:=Ql0 v (show(0:Int)<7 by omega);have hs:qz (rq (v % 7) 6)<=1:=MB omK omK omK;refine⟨.inr ⟨rfl,?_⟩,by omega⟩;have h3:v % 7=0\/v % 7=1\/v % 7=2\/v % 7=3\/v % 7=4\/v % 7=5\/v % 7=6:=by omega
  rcases h3 with h|h|h|h|h|h|h<;>rw[h]<;>decide +kernel
 ·rw[if_neg (by decide),if_neg (by decide),if_neg (by decide),if_pos rfl];have h1:=Qn0 v (show(16:Int)≠0 by omega);have h2:=Ql0 v (show(0:Int)<16 by omega);exact⟨rfl,h1,by omega⟩
 ·rw[if_neg (by decide),if_neg (by decide),if_neg (by decide),if_neg (by decide)];exact⟨rfl,U_ v⟩
end Fi.S
namespace Fi.S
open Go Fi
set_option maxHeartbeats 8000000
theorem acH:bW E0 80 35 [.d (bA 2 [])] []=some (.d (Mx 2),none):=Y4 (by kernel_rfl)
theorem afy (v:Int)(hv:d_ v):Ca E1 16 [.d (bA 1 []),.d (.v (.int .i64 v))] (.d (Sv.q (uF v)).w.d,none):=by
 obtain⟨N,t⟩:=(Ca.fP (Fg v hv)).get;refine Ca.bO (n:=N+100) ?_;rw[av rfl (k16:E1.fn _=_) rfl];generalize uF v=x at*;simp only[Sv.w,W.d,W.ds,PD,bA,LK,qD,raw,LD,Qc0]at*;generalize qs x=s,LL (qn x)=ns,LL (qd x)=ds at*;simp -implicitDefEqProofs[f16,t]
theorem afz (v:Int)(hv:d_ v):Ca E1 16 [.d (bA 2 []),.d (.v (.int .i64 v))] (.d (if v % 11=10 then Sv.c true 0 else .c false (v % 11)).w.d,none):=by
 obtain⟨N,hN,t,t2⟩:=((Ca.fP (iW v 11 hv omK omK)).j ((Ca.fP (Ca.of acH)).any)).at 0;refine Ca.bO (n:=N+100) ?_;rw[av rfl (k16:E1.fn _=_) rfl];generalize v % 11=j at*
 by_cases h:j=10
 ·subst h;rw[if_pos rfl];simp only[Sv.w,W.d,W.ds,PD,bA,LK,LD,LL,Qc0,Mx]at*;simp -implicitDefEqProofs[f16,t,t2]
 ·have h':(j==10)=false:=by simpa using h
  rw[if_neg h];simp only[Sv.w,W.d,W.ds,PD,bA,LK,LD,LL,Qc0]at*;simp -implicitDefEqProofs[f16,t,h,h']
theorem acI (v:Int)(hv:d_ v):Ca E1 16 [.d (bA 3 []),.d (.v (.int .i64 v))] (.d (Sv.q (rq (v % 7) 6)).w.d,none):=by
 have h1:=Qn0 v (show(7:Int)≠0 by omega);have h2:=Ql0 v (show(0:Int)<7 by omega);obtain⟨N,hN,t1,t2⟩:=((Ca.fP (iW v 7 hv omK omK)).j ((Ca.fP (BJ (v % 7) 6 omK (by decide) (by decide))).any)).at 0;refine Ca.bO (n:=N+100) ?_;rw[av rfl (k16:E1.fn _=_) rfl];generalize rq (v % 7) 6=x at*;generalize v % 7=j at*;simp only[Sv.w,W.d,W.ds,PD,bA,LK,qD,raw,LD,Qc0]at*;generalize qs x=s,LL (qn x)=ns,LL (qd x)=ds at*;simp -implicitDefEqProofs[f16,t1,t2]
theorem afA (v:Int)(hv:d_ v):Ca E1 16 [.d (bA 4 []),.d (.v (.int .i64 v))] (.d (Sv.s (v % 16)).w.d,none):=by
 have h1:=Qn0 v (show(16:Int)≠0 by omega);have h2:=Ql0 v (show(0:Int)<16 by omega);obtain⟨N,t⟩:=(Ca.fP (iW v 16 hv omK omK)).get;have w:ah .u64 (v % 16)=v % 16:=wrap_u64 omK;refine Ca.bO (n:=N+100) ?_;rw[av rfl (k16:E1.fn _=_) rfl];generalize v % 16=j at*;simp only[Sv.w,W.d,W.ds,PD,bA,LK,LD,LL,Qc0]at*;simp -implicitDefEqProofs[f16,t,w]
theorem Va {v n:Int}(hv:d_ v)(hn:2<=n):d_ (v.tdiv n):=by
 have h:(v.tdiv n).natAbs=v.natAbs / n.natAbs:=Int.natAbs_tdiv v n;have h2:v.natAbs / n.natAbs<=v.natAbs / 2:=Nat.div_le_div_left omK omK;unfold d_ at*;omega
theorem afB (v:Int)(hv:d_ v):Ca E1 16 [.d (bA 5 []),.d (.v (.int .i64 v))] (.d (Sv.p (zL v)).w.d,none):=by
 have h1:=Qn0 v (show(5:Int)≠0 by omega);have h2:=Ql0 v (show(0:Int)<5 by omega);have h3:=Qn0 (v.tdiv 10) (show(3:Int)≠0 by omega);have h4:=Ql0 (v.tdiv 10) (show(0:Int)<3 by omega);have r5:=Va (n:=5) hv omK;have r10:=Va (n:=10) hv omK;have w0:ah .i64 (v % 5-2)=v % 5-2:=wrap_i64 omK;have w1:ah .i64 (v.tdiv 5)=v.tdiv 5:=wrap_i64 r5;have w2:ah .i64 (v.tdiv 10)=v.tdiv 10:=wrap_i64 r10;obtain⟨N1,t1⟩:=(Ca.fP (iW v 5 hv omK omK)).any;obtain⟨N2,t2⟩:=(Ca.fP (BJ (v % 5-2) 3 omK (by decide) (by decide))).any;obtain⟨N3,t3⟩:=(Ff (rq (v % 5-2) 3) (by have:=Co v;omega)).any;obtain⟨N4,t4⟩:=(Ca.fP (iW (v.tdiv 5) 2 r5 omK omK)).any;obtain⟨N5,t5⟩:=(Ca.fP (iW (v.tdiv 10) 3 r10 omK omK)).any;have hi3:((v.tdiv 10) % 3).toNat<3:=by omega
 have p6:=Qq ((v.tdiv 10) % 3).toNat hi3;have e6:((((v.tdiv 10) % 3).toNat:Nat):Int)=(v.tdiv 10) % 3:=by omega
 rw[e6]at p6;obtain⟨N6,t6⟩:=p6.any;obtain⟨N7,t7⟩:=(Ca.fP (Fg v hv)).any;obtain⟨N8,t8⟩:=(Qp (S:=1) omK omK (Cq ((v.tdiv 10) % 3).toNat) (uF v) (AV v) (by simp)).any;have hm:=h_ (a:=[(gY ((v.tdiv 10) % 3).toNat,1)]) omK (Cq _) (kg (AV v));simp only[Qe2,Qr2]at hm;obtain⟨N9,t9⟩:=(Js (S:=4) omK omK ((kg (Co v)).mono omK) (hm.mono omK)).any;obtain⟨N,hN⟩:∃ N,N=N1+N2+N3+N4+N5+N6+N7+N8+N9:=⟨_,rfl⟩
 replace t1:=t1 N omK;replace t2:=t2 N omK;replace t3:=t3 N omK;replace t4:=t4 N omK;replace t5:=t5 N omK;replace t6:=t6 N omK;replace t7:=t7 N omK;replace t8:=t8 N omK;replace t9:=t9 N omK;refine Ca.bO (n:=N+150) ?_;rw[av rfl (k16:E1.fn _=_) rfl];rw[UQ];unfold zL;clear hm hN p6 e6 hi3 h1 h2 h3 h4 r5 r10;generalize uF v=x,rq (v % 5-2) 3=y,((v.tdiv 10) % 3).toNat=pi at*;generalize (v.tdiv 10) % 3=j3,(v.tdiv 5) % 2=j2 at*
 by_cases h:j2=1
 ·subst h;rw[if_pos rfl];generalize gu (bX y) (iH [(gY pi,1)] (bX x))=R at*;generalize iH [(gY pi,1)] (bX x)=P2,([(gY pi,1)]:List aZ)=P1,bX y=P0 at*;unfold aT at*;generalize (R.map fun p=>qC p.1 p.2)=z1,(P2.map fun p=>qC p.1 p.2)=z2,(P1.map fun p=>qC p.1 p.2)=z3,(P0.map fun p=>qC p.1 p.2)=z4 at*;simp only[bA,LK,qD,raw,LD,Qc0]at*;generalize qs x=s,LL (qn x)=ns,LL (qd x)=ds,qs y=s',LL (qn y)=ns',LL (qd y)=ds' at*;simp -implicitDefEqProofs[f16,t1,t2,t3,t4,t5,t6,t7,t8,t9,w0,w1,w2]
 ·have h':(j2==1)=false:=by simpa using h
  rw[if_neg h];unfold aT at*;generalize bX y=P0 at*;generalize (P0.map fun p=>qC p.1 p.2)=z4 at*;simp only[bA,LK,qD,raw,LD,Qc0]at*;generalize qs y=s',LL (qn y)=ns',LL (qd y)=ds' at*;simp -implicitDefEqProofs[f16,t1,t2,t3,t4,w0,w1,h,h']
def mdL:aG:=f16.body.r.r.r.l.r.bl.lp
def GL (kk:Int)(ps:List Int):ae:=.box [.d (.v (.int .i64 kk)),.d (.s 1 (LK .i64 ps))]
def Qz (v:Int)(i:Nat)(t:FV)(L:List ae):St :=
 (st0 [.u,.d (.v (.int .i64 v)),.r (.loc 0) 0,.r (.loc 1) 0,.u,.r (.loc 2) 0,.d (.v (.int .i64 i)),.u,.u,.u,.u,.u,.u,.u,.u,t] L)
theorem Vb (v:Int)(kk:Int)(ps:List Int)(i:Nat)(k:Int)(L:List ae)(px:FV)(zs:List D)(z:W)(hk:ps[i]?=some k)(hn:ps.length<=3)(h0:L[0]?=some (GL kk ps))(h1:L[1]?=some (bn (.d (.n 8))))(h2:L[2]?=some (bn px))(ho:jM px L zs)(hz:zs.length<=3)
  (hc:Ca E1 16 [.d (bA k []),.d (.v (.int .i64 (ah .i64 (v+i))))] (.d z.d,none)) :
  ∃ pJ L',Ex E1 mdL (Qz v i .u L) (.norm,Qz v (i+1) .u L')/\L'[0]?=some (GL kk ps)/\L'[1]?=some (bn (.d (.n 8)))/\L'[2]?=some (bn pJ)/\jM pJ L' (zs++[z.d]):=by
 obtain⟨N,t⟩:=hc.get;have h0l:0<L.length:=(bD h0)
 have Qu:1<L.length:=(bD h1)
 have Fh:2<L.length:=(bD h2)
 have hil:i<ps.length:=(bD hk)
 have n1:(LK .i64 ps).length=ps.length:=by simp[LK]
 have e1:(LK .i64 ps)[i]?=some (.v (.int .i64 k)):=by simp[LK,hk]
 have bz:ah .i64 ((i:Int)+1)=(i:Int)+1:=wrap_i64 omK;have hk1:((i+1:Nat):Int)=(i:Int)+1:=by omega
 have hk0:(0:Int)<=(i:Int):=by omega
 have hkc:(i:Int)<(ps.length:Int):=by omega
 obtain⟨U0,GA,GD,zc,zb,zu,zp,Ik,ez⟩:=z.aN;rw[ez]at t ⊢;unfold wD bA at*;have e0:LK .i64 []=[]:=rfl;rw[e0]at t;rcases ho with ⟨rfl,rfl⟩|⟨j,az,rfl,hj⟩
 ·have g2:∀ X,(L++X)[2]?=some (bn (.d (.n 8))):=fun X=>by rw[Qa1 Fh];exact h2
  refine⟨.ls (.loc L.length) 0 8 0 1,(L.set 2 (bn (.ls (.loc L.length) 0 8 0 1)))++[.row 0 8 [(.a [D.v (.bool U0),.s 1 GA,.s 1 GD,.v (.int .i64 zc),.v (.bool zb),.v (.int .u64 zu),.s 6 zp,.s 8 Ik])]],Ex.of (n:=N+100) ?_,?_,?_,?_,?_⟩
  ·unfold Qz;rw[hk1];clear h1;unfold bn GL at*;generalize LK .i64 ps=l1 at*;have i1:=idx e1;have i2:=idx h2;have i0:=idx h0;simp -implicitDefEqProofs[mdL,f16,bz,hk0,hkc,hil,n1,e1,i1,i0,i2,h0,h2,h0l,Fh,t,most,g2]
  ·rw[Qa1 (by simpa using h0l),Qd0 omK];exact h0
  ·rw[Qa1 (by simpa using Qu),Qd0 omK];exact h1
  ·rw[Qa1 (by simpa using Fh)];exact Qf0 Fh
  ·exact .inr ⟨L.length,0,rfl,by simp⟩
 ·have hjl:j<L.length:=(bD hj)
  have hj2:j≠2:=fun h=>by
   subst h;rw[h2]at hj;cases hj
  have hj1:j≠1:=fun h=>by
   subst h;rw[h1]at hj;cases hj
  have hj0:j≠0:=fun h=>by
   subst h;rw[h0]at hj;cases hj
  have s2:∀ r,(L.set j r)[2]?=some (bn (.ls (.loc j) az 8 0 zs.length)):=fun r=>by rw[Qd0 hj2];exact h2
  have m1:(zs.length+1)*128<=1099511627776:=by omega
  have m2:zs.length+1<=1099511627776:=by omega
  refine⟨.ls (.loc j) (az+1) 8 0 (zs.length+1),((L.set j (.row (az+1) 8 (zs++[(.a [D.v (.bool U0),.s 1 GA,.s 1 GD,.v (.int .i64 zc),.v (.bool zb),.v (.int .u64 zu),.s 6 zp,.s 8 Ik])]))).set 2 (bn (.ls (.loc j) (az+1) 8 0 (zs.length+1)))),Ex.of (n:=N+100) ?_,?_,?_,?_,?_⟩
  ·unfold Qz;rw[hk1];clear h1;unfold bn GL at*;generalize LK .i64 ps=l1 at*;have i1:=idx e1;have i2:=idx h2;have i0:=idx h0;have i3:=idx hj;have i4:∀ r (h:2<(L.set j r).length),(L.set j r)[2]=_:=fun r h=>idx (s2 r) h
   simp -implicitDefEqProofs[mdL,f16,bz,hk0,hkc,hil,n1,e1,i1,i0,i2,h0,h2,h0l,Fh,t,most,i3,i4,hj,hjl,s2,m1,m2]
  ·rw[Qd0 omK,Qd0 hj0];exact h0
  ·rw[Qd0 omK,Qd0 hj1];exact h1
  ·exact Qf0 (by simpa using Fh)
  ·refine .inr ⟨j,az+1,by simp,?_⟩;rw[Qd0 (fun h=>hj2 h.symm)];exact Qf0 hjl
theorem Y5 (v:Int)(kk:Int)(ps:List Int)(zs:List W)(hn:ps.length<=3)(hz:zs.length=ps.length)(hc:∀ (i:Nat) (k:Int) (z:W),ps[i]?=some k->zs[i]?=some z->Ca E1 16 [.d (bA k []),.d (.v (.int .i64 (ah .i64 (v+i))))] (.d z.d,none))
  (L:List ae) (h0:L[0]?=some (GL kk ps)) (h1:L[1]?=some (bn (.d (.n 8)))) (h2:L[2]?=some (bn (.d (.n 8)))) :
  ∃ pJ L',Ex E1 (.loop mdL) (Qz v 0 .u L) (.exit 1,Qz v ps.length (.d (.v (.bool false))) L')/\L'[1]?=some (bn (.d (.n 8)))/\L'[2]?=some (bn pJ)/\jM pJ L' (W.ds zs):=by
 have n1:(LK .i64 ps).length=ps.length:=by simp[LK]
 obtain⟨r,hx,pJ,L',rfl,h5,h3,h4⟩:=Ex.inv (E:=E1) (b:=mdL) (α:=Nat × FV × List ae) (S:=fun a=>Qz v a.1 .u a.2.2) (fun a=>ps.length-a.1)
  (fun a=>a.1<=ps.length/\a.2.2[0]?=some (GL kk ps)/\a.2.2[1]?=some (bn (.d (.n 8)))/\a.2.2[2]?=some (bn a.2.1)/\jM a.2.1 a.2.2 (W.ds (zs.take a.1)))
  (fun r=>∃ pJ L',r=(.exit 1,Qz v ps.length (.d (.v (.bool false))) L')/\L'[1]?=some (bn (.d (.n 8)))/\L'[2]?=some (bn pJ)/\jM pJ L' (W.ds zs)) (by
   rintro⟨i,px,L⟩ ⟨q1,qa,q0,q2,q3⟩;simp only at q1 qa q0 q2 q3
   by_cases hi:i<ps.length
   ·have hk:ps[i]?=some ps[i]:=Qa0 hi;have hzi:zs[i]?=some (zs[i]'(by omega)):=Qa0 omK;have hlen:(W.ds (zs.take i)).length<=3:=by simp[W.gX];omega
    obtain⟨pJ,L',g1,ga,g0,g2,g3⟩:=Vb v kk ps i ps[i] L px _ _ hk hn qa q0 q2 q3 hlen (hc i _ _ hk hzi);refine .inl ⟨(i+1,pJ,L'),g1,by show ps.length-(i+1)<ps.length-i;omega,by show i+1<=_;omega,ga,g0,g2,?_⟩;show jM pJ L' (W.ds (zs.take (i+1)));rw[Q01,hzi];have e:W.ds (zs.take i++[zs[i]'(by omega)])=W.ds (zs.take i)++[(zs[i]'(by omega)).d]:=by simp only[W.gX,Qq0,Qd2,Qc0]
    show jM pJ L' (W.ds (zs.take i++[zs[i]'(by omega)]));rw[e];exact g3
   ·obtain rfl:i=ps.length:=by omega
    rw[<-hz,Qn1]at q3;refine .inr ⟨_,Ex.of (n:=60) ?_,?_,px,L,rfl,q0,q2,q3⟩
    ·unfold Qz;unfold GL at qa;rw[<-n1];generalize LK .i64 ps=l1 at*;have i0:=idx qa;have h0l:0<L.length:=(bD qa)
     simp -implicitDefEqProofs[mdL,f16,qa,i0,h0l]
    ·simp) (0,.d (.n 8),L) ⟨Q02 _,h0,h1,h2,.inl ⟨rfl,rfl⟩⟩
 exact⟨pJ,L',hx,h5,h3,h4⟩
theorem Vd (v:Int)(ps:List Int)(zs:List W)(hn:ps.length<=3)(hz:zs.length=ps.length)(hc:∀ (i:Nat) (k:Int) (z:W),ps[i]?=some k->zs[i]?=some z->Ca E1 16 [.d (bA k []),.d (.v (.int .i64 (ah .i64 (v+i))))] (.d z.d,none)) :
  Ca E1 16 [.d (bA 6 ps),.d (.v (.int .i64 v))] (.d (fQ zs).d,none):=by
 obtain⟨px,L,hl,h1,h2,ho⟩:=Y5 v 6 ps zs hn hz hc [GL 6 ps,bn (.d (.n 8)),bn (.d (.n 8))] rfl rfl rfl;have hds:(fQ zs).d=.a [.v (.bool false),.s 1 [],.s 1 [],.v (.int .i64 0),.v (.bool false),.v (.int .u64 0),.s 6 [],.s 8 (W.ds zs)]:=rfl;have Qu:1<L.length:=(bD h1)
 have hA:∃ st,Ex E1 f16.body.l (st0 [.d (bA 6 ps),.d (.v (.int .i64 v)),.u,.u,.u,.u,.u,.u,.u,.u,.u,.u,.u,.u,.u,.u] []) (.norm,st) /\
   st=(st0 [.u,.d (.v (.int .i64 v)),.r (.loc 0) 0,.r (.loc 1) 0,.u,.u,.u,.u,.u,.u,.u,.u,.u,.u,.u,.u] [GL 6 ps,bn (.d (.n 8))]):=by
  refine⟨_,Ex.of (n:=60) ?_,rfl⟩;unfold bA GL bn;generalize LK .i64 ps=l1 at*;simp -implicitDefEqProofs[f16]
 obtain⟨_,hA,rfl⟩:=hA;have hB:Ex E1 f16.body.r.l (st0 [.u,.d (.v (.int .i64 v)),.r (.loc 0) 0,.r (.loc 1) 0,.u,.u,.u,.u,.u,.u,.u,.u,.u,.u,.u,.u] [GL 6 ps,bn (.d (.n 8))])
   (.norm,(st0 [.u,.d (.v (.int .i64 v)),.r (.loc 0) 0,.r (.loc 1) 0,.u,.u,.u,.u,.u,.u,.u,.u,.u,.d (.v (.bool false)),.u,.u] [GL 6 ps,bn (.d (.n 8))])):=by
  refine Ex.of (n:=100) ?_;unfold GL bn;generalize LK .i64 ps=l1 at*;simp -implicitDefEqProofs[f16]
 have hC:Ex E1 f16.body.r.r.l (st0 [.u,.d (.v (.int .i64 v)),.r (.loc 0) 0,.r (.loc 1) 0,.u,.u,.u,.u,.u,.u,.u,.u,.u,.d (.v (.bool false)),.u,.u] [GL 6 ps,bn (.d (.n 8))])
   (.norm,(st0 [.u,.d (.v (.int .i64 v)),.r (.loc 0) 0,.r (.loc 1) 0,.u,.r (.loc 2) 0,.u,.u,.u,.u,.u,.u,.u,.u,.u,.u] [GL 6 ps,bn (.d (.n 8)),bn (.d (.n 8))])):=by
  refine Ex.of (n:=60) ?_;unfold GL bn;generalize LK .i64 ps=l1 at*;simp -implicitDefEqProofs[f16]
 have hC2:Ex E1 f16.body.r.r.r.l.l (st0 [.u,.d (.v (.int .i64 v)),.r (.loc 0) 0,.r (.loc 1) 0,.u,.r (.loc 2) 0,.u,.u,.u,.u,.u,.u,.u,.u,.u,.u] [GL 6 ps,bn (.d (.n 8)),bn (.d (.n 8))])
   (.norm,Qz v 0 .u [GL 6 ps,bn (.d (.n 8)),bn (.d (.n 8))]):=by
  refine Ex.of (n:=60) ?_;unfold Qz GL bn;generalize LK .i64 ps=l1 at*;simp -implicitDefEqProofs[f16]
 have hD:Ex E1 f16.body.r.r.r.r (Qz v ps.length (.d (.v (.bool false))) L)
   (.ret,(st0 [.u,.u,.u,.r (.loc 1) 0,.u,.u,.u,.u,.u,.u,.u,.u,.u,.u,.u,.u] (L.set 1 (bn px)))):=by
  refine Ex.of (n:=60) ?_;unfold Qz bn at*;have i1:=idx h1;have i2:=idx h2;rcases ho with ⟨rfl,_⟩|⟨j,az,rfl,_⟩
  ·simp -implicitDefEqProofs[f16,h1,h2,i1,i2,Qu]
  ·simp -implicitDefEqProofs[f16,h1,h2,i1,i2,Qu]
 refine Ca.body (o:=.ret) (st1:=(st0 [.u,.u,.u,.r (.loc 1) 0,.u,.u,.u,.u,.u,.u,.u,.u,.u,.u,.u,.u] (L.set 1 (bn px)))) rfl (k16:E1.fn _=_) rfl ?_ (by intro id h;cases h) ?_
 ·show Ex E1 (.seq f16.body.l (.seq f16.body.r.l (.seq f16.body.r.r.l (.seq (.seq f16.body.r.r.r.l.l (.block 1 (.loop mdL))) f16.body.r.r.r.r)))) _ _;exact hA.seq (hB.seq (hC.seq ((hC2.seq hl.block).seq hD)))
 ·rw[hds];unfold bn at*;have s1:∀ o,(L.set 1 o)[1]?=some o:=fun o=>Qf0 Qu
  rcases ho with ⟨rfl,e⟩|⟨j,az,rfl,hj⟩
  ·rw[e];simp -implicitDefEqProofs[f16,s1]
  ·have hj1:j≠1:=fun h=>by
    subst h;rw[h1]at hj;cases hj
   have sj:∀ o,(L.set 1 o)[j]?=some (.row az 8 (W.ds zs)):=fun o=>by rw[Qd0 (fun h=>hj1 h.symm)];exact hj
   have ev:ae.view az 8 0 (W.ds zs).length (.row az 8 (W.ds zs))=some (W.ds zs):=by simp[ae.view]
   generalize W.ds zs=es at*;simp -implicitDefEqProofs[f16,s1,sj,ev]
end Fi.S
namespace Fi.S
open Go Fi
set_option maxHeartbeats 8000000
set_option maxRecDepth 4000
def gU (S M:Nat)(ps:List Int)(xs:List Sv):Prop:=xs.length=ps.length/\∀ (i:Nat) (k:Int) (x:Sv),ps[i]?=some k->xs[i]?=some x->x.of k S M
theorem OA {S M:Nat}:∀ {ps:List Int} {xs:List Sv},gU S M ps xs->uE ps (xs.map Sv.w)=true
 | [],[],_=>rfl
 | [],_::_,h=>by simp[gU]at h
 | _::_,[],h=>by simp[gU]at h
 | k::ps,x::xs,h=>by
  simp only[Qd2,uE,Qb2];exact⟨U5 (h.2 0 k x rfl rfl),OA ⟨by simpa using h.1,fun i k' x' hk hx=>h.2 (i+1) k' x' (by simpa using hk) (by simpa using hx)⟩⟩
theorem Cr {S M:Nat}{ps:List Int}(hv:aJ 6 ps=true){xs:List Sv}(h:gU S M ps xs):cZ 6 ps (fQ (xs.map Sv.w))=true:=by
 unfold cZ;have h1:(fQ (xs.map Sv.w)).ps=xs.map Sv.w:=rfl;have h2:(fQ (xs.map Sv.w)).bare=true:=rfl;rw[hv,h1,h2,OA h];simp[h.1]
theorem OB {S M:Nat}(hS:S<=1000){ps:List Int}(hps:ps.length<=3){xs:List Sv}(h:gU S M ps xs):(fQ (xs.map Sv.w)).OK:=by
 have hl:bV []:=fun _ h=>(by cases h)
 refine .mk hl hl (by simp) (by simp) ⟨fun _ h=>(by cases h),by simp⟩ (by have:=h.1;simp;omega) (fun w hw => ?_);obtain⟨x,hx,rfl⟩:=Qg2.1 hw;obtain⟨i,hi,hxi⟩:=Q60.1 hx;have h1:xs[i]?=some x:=by rw[Qa0 hi,hxi]
 have h2:i<ps.length:=by rw[<-h.1];exact hi
 exact U6 (h.2 i _ x (Qa0 h2) h1) hS
noncomputable def bL (ps:List Int) (xs ys:List Sv):List Sv:=(ps.zip (xs.zip ys)).map fun p=>dB p.1 p.2.1 p.2.2
theorem gM {ps:List Int}{xs ys:List Sv}{i:Nat}{z:Sv}(h:(bL ps xs ys)[i]?=some z):∃ k x y,ps[i]?=some k/\xs[i]?=some x/\ys[i]?=some y/\z=dB k x y:=by
 unfold bL at h;rw[Qb1,Qf1]at h;obtain⟨⟨k,x,y⟩,h1,rfl⟩:=h;rw[Q92]at h1;have h2:=h1.2;rw[Q92]at h2;exact⟨k,x,y,h1.1,h2.1,h2.2,rfl⟩
theorem MC {xs:List Sv}{i:Nat}{w:W}(h:(xs.map Sv.w)[i]?=some w):∃ x,xs[i]?=some x/\w=x.w:=by
 rw[Qb1,Qf1]at h;obtain⟨x,h1,rfl⟩:=h;exact⟨x,h1,rfl⟩
theorem ME {S M:Nat}(hS:S<=1000)(hM:(M+M)*(S+1)<=50000){ps:List Int}(hv:aJ 6 ps=true)(v w:W){xs ys:List Sv}(hx:gU S M ps xs)(hy:gU S M ps ys)
  (h1:Ca E1 41 [.d (bA 6 ps),.d v.d] (.d (fQ (xs.map Sv.w)).d,none)) (h2:Ca E1 41 [.d (bA 6 ps),.d w.d] (.d (fQ (ys.map Sv.w)).d,none)) :
  Ca E1 14 [.d (bA 6 ps),.d v.d,.d w.d] (.d (fQ ((bL ps xs ys).map Sv.w)).d,none):=by
 obtain⟨_,_,hs⟩:=rg6 hv;refine U3 hv v w _ _ _ (by simp[hx.1]) (by simp[hy.1]) (by simp[bL,hx.1,hy.1]) h1 h2 (fun i k x y z hk hxi hyi hzi => ?_);obtain⟨x',g1,rfl⟩:=MC hxi;obtain⟨y',g2,rfl⟩:=MC hyi;obtain⟨z',g3,rfl⟩:=MC hzi;obtain⟨k',x'',y'',f1,f2,f3,rfl⟩:=gM g3;rw[hk]at f1;rw[g1]at f2;rw[g2]at f3;cases f1;cases f2;cases f3;exact JB (hs k (Qa2 hk)) hS hM (hx.2 i k _ hk g1) (hy.2 i k _ hk g2)
end Fi.S
