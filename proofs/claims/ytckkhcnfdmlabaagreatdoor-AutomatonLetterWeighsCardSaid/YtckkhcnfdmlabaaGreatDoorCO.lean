import Derived.Test.YtckkhcnfdmlabaaGreatDoorPZeroB
import Derived.Test.YtckkhcnfdmlabaaGreatDoorPZeroC
import Derived.Test.YtckkhcnfdmlabaaGreatDoorPZeroD
import Derived.Test.YtckkhcnfdmlabaaGreatDoorCM
set_option linter.unusedVariables false
set_option linter.unusedSimpArgs false
noncomputable section
namespace Fi.S
open Go Fi
set_option maxHeartbeats 8000000
theorem U5 (k:Int)(ps:List Int)(h:aH k ps=true):je k ps=true:=by
 have five:∀ {a:Int},single a=true->a ∈ [1,2,3,4,5]:=by
  intro a ha;simp only[single,Bool.and_eq_true,decide_eq_true_eq]at ha;simp only[List.mem_cons,List.not_mem_nil,or_false];omega
 have main:∀ {f:Int->Bool} {x:Int},([1,2,3,4,5].all f)=true->x ∈ [1,2,3,4,5]->f x=true:=by
  intro f x h1 h2;exact List.all_eq_true.1 h1 _ h2
 unfold aH at h
 by_cases hk:k=6
 ·subst hk;rw[if_neg (by simp)]at h;simp only[Bool.and_eq_true,decide_eq_true_eq,List.all_eq_true]at h;obtain⟨⟨h2,h3⟩,hs⟩:=h
  match ps,h2,h3,hs with
  | [a,b],_,_,hs =>
   have ha:=five (hs a (by simp));have hb:=five (hs b (by simp));simp only[List.mem_cons,List.not_mem_nil,or_false]at ha;rcases ha with rfl|rfl|rfl|rfl|rfl
   ·exact main (f:=fun k=>je 6 [1,k]) (x:=b) afm hb
   ·exact main (f:=fun k=>je 6 [2,k]) (x:=b) afn hb
   ·exact main (f:=fun k=>je 6 [3,k]) (x:=b) afo hb
   ·exact main (f:=fun k=>je 6 [4,k]) (x:=b) afp hb
   ·exact main (f:=fun k=>je 6 [5,k]) (x:=b) afq hb
  | [a,b,c],_,_,hs =>
   have ha:=five (hs a (by simp));have hb:=five (hs b (by simp));have hc:=five (hs c (by simp));simp only[List.mem_cons,List.not_mem_nil,or_false]at ha hb;rcases ha with rfl|rfl|rfl|rfl|rfl<;>rcases hb with rfl|rfl|rfl|rfl|rfl
   ·exact main (f:=fun k=>je 6 [1,1,k]) (x:=c) acj hc
   ·exact main (f:=fun k=>je 6 [1,2,k]) (x:=c) ack hc
   ·exact main (f:=fun k=>je 6 [1,3,k]) (x:=c) acm hc
   ·exact main (f:=fun k=>je 6 [1,4,k]) (x:=c) acn hc
   ·exact main (f:=fun k=>je 6 [1,5,k]) (x:=c) aco hc
   ·exact main (f:=fun k=>je 6 [2,1,k]) (x:=c) acp hc
   ·exact main (f:=fun k=>je 6 [2,2,k]) (x:=c) acr hc
   ·exact main (f:=fun k=>je 6 [2,3,k]) (x:=c) acs hc
   ·exact main (f:=fun k=>je 6 [2,4,k]) (x:=c) acu hc
   ·exact main (f:=fun k=>je 6 [2,5,k]) (x:=c) acv hc
   ·exact main (f:=fun k=>je 6 [3,1,k]) (x:=c) acw hc
   ·exact main (f:=fun k=>je 6 [3,2,k]) (x:=c) acx hc
   ·exact main (f:=fun k=>je 6 [3,3,k]) (x:=c) acy hc
   ·exact main (f:=fun k=>je 6 [3,4,k]) (x:=c) acz hc
   ·exact main (f:=fun k=>je 6 [3,5,k]) (x:=c) acA hc
   ·exact main (f:=fun k=>je 6 [4,1,k]) (x:=c) acB hc
   ·exact main (f:=fun k=>je 6 [4,2,k]) (x:=c) acC hc
   ·exact main (f:=fun k=>je 6 [4,3,k]) (x:=c) acD hc
   ·exact main (f:=fun k=>je 6 [4,4,k]) (x:=c) acE hc
   ·exact main (f:=fun k=>je 6 [4,5,k]) (x:=c) acF hc
   ·exact main (f:=fun k=>je 6 [5,1,k]) (x:=c) acG hc
   ·exact main (f:=fun k=>je 6 [5,2,k]) (x:=c) acH hc
   ·exact main (f:=fun k=>je 6 [5,3,k]) (x:=c) acI hc
   ·exact main (f:=fun k=>je 6 [5,4,k]) (x:=c) acJ hc
   ·exact main (f:=fun k=>je 6 [5,5,k]) (x:=c) acK hc
 ·rw[if_pos hk]at h;simp only[Bool.and_eq_true,decide_eq_true_eq]at h;obtain⟨h1,rfl⟩:=h;exact main (f:=fun k=>je k []) (x:=k) ah0 (five h1)
def JK (k:Int)(ps:List Int):W:=if k=6 then fI (ps.map fun k=>(eP k).w) else(eP k).w
theorem Oc (k:Int):(eP k).w.d=Ml k:=by
 have h1:qs 0=false:=by decide
 have h2:qn 0=[]:=cK;have h3:qd 0=[]:=if_pos rfl;unfold eP Ml
 by_cases a:k=2
 ·subst a;rfl
 ·have e:(k==2)=false:=by simpa using a
  rw[if_neg a,e]
  by_cases b:k=4
  ·rw[if_pos b];rfl
  ·rw[if_neg b]
   by_cases c:k=5
   ·rw[if_pos c];rfl
   ·rw[if_neg c];simp only[Sv.w,W.d,W.ds,h1,h2,h3,LD,LL,PD,List.map_nil]
theorem Y6 (k:Int)(ps:List Int):(JK k ps).d=U6 k ps:=by
 unfold JK U6
 by_cases h:k=6
 ·rw[if_pos h,if_pos h];have:W.ds (ps.map fun k=>(eP k).w)=ps.map Ml:=by
   rw[W.eH,List.map_map];exact List.map_congr_left fun x _=>Oc x
  show D.a [.v (.bool false),.s 1 [],.s 1 [],.v (.int .i64 0),.v (.bool false),.v (.int .u64 0),.s 6 [],.s 8 (W.ds (ps.map fun k=>(eP k).w))]=_;rw[this]
 ·rw[if_neg h,if_neg h,Oc]
theorem U7 {k:Int}{ps:List Int}(h:aH k ps=true):Ca E1 26 [.d (aP k ps)] (.d (JK k ps).d,none):=by
 have h1:=U5 k ps h;unfold je at h1;rw[Bool.and_eq_true]at h1;have h2:=h1.1;split at h2
 ·rename_i z hz;rw[Y6,<-nD h2];exact Ca.dW (Ca.of hz)
 ·cases h2
theorem Y7 {k:Int}{ps:List Int}(h:aH k ps=true):Ca E1 27 [.d (aP k ps)] (.d (FM k ps),none)/\Ca E1 20 [.d (aP k ps)] (.d (FM k ps),none):=by
 obtain⟨K,hK⟩:=Qh;have h1:=U5 k ps h;unfold je at h1;rw[Bool.and_eq_true,Bool.and_eq_true]at h1;obtain⟨_,h2,h3⟩:=h1;refine⟨?_,?_⟩
 ·split at h2
  ·rename_i z hz;rw[<-nD h2];exact Ca.of (FN hK hz)
  ·cases h2
 ·split at h3
  ·rename_i z hz;rw[<-nD h3];exact Ca.of (FN hK hz)
  ·cases h3
noncomputable def FO (v:Int):List bz :=
 if (v.tdiv 5) % 2=1 then jw (df (uU (v % 5-2) 3)) (lH [(iD ((v.tdiv 10) % 3).toNat,1)] (df (zn v))) else df (uU (v % 5-2) 3)
noncomputable def FP (k v:Int):Sv :=
 if k=1 then .q (zn v) else if k=2 then(if v % 11=10 then .c true 0 else .c false (v % 11)) else if k=3 then .q (uU (v % 7) 6) else if k=4 then .s (v % 16) else .p (FO v)
theorem Mm {a b:Int}(ha:a.natAbs<4294967296)(hb:b.natAbs<4294967296)(hb0:b≠0):qz (uU a b)<=1:=by
 unfold uU;refine Nat.le_trans (Ce (by omega)) ?_;have h1:sz a.natAbs<=1:=Ab (by omega);have h2:sz b.natAbs<=1:=Ab (by omega);exact Nat.max_le.2 ⟨h1,h2⟩
theorem Bz (v:Int):qz (zn v)<=1:=by
 have h1:=Int.emod_nonneg v (show(13:Int)≠0 by omega);have h2:=Int.emod_lt_of_pos v (show(0:Int)<13 by omega);have h3:=Int.emod_nonneg (v.tdiv 13) (show(3:Int)≠0 by omega);have h4:=Int.emod_lt_of_pos (v.tdiv 13) (show(0:Int)<3 by omega);exact Mm (by omega) (by omega) (by omega)
theorem Dm (v:Int):qz (uU (v % 5-2) 3)<=1:=by
 have h1:=Int.emod_nonneg v (show(5:Int)≠0 by omega);have h2:=Int.emod_lt_of_pos v (show(0:Int)<5 by omega);exact Mm (by omega) (by omega) (by omega)
theorem Dn (i:Nat):PV 1 [(iD i,1)]:=by
 refine⟨List.pairwise_cons.2 ⟨fun _ h=>(by cases h),List.Pairwise.nil⟩,fun p hp => ?_,fun p hp => ?_,fun p hp => ?_⟩<;>(rw[List.mem_singleton]at hp;subst hp)
 ·exact(by decide:(1:Rat)≠0)
 ·show bV (iD i)=true;unfold iD;split
  ·decide
  ·split<;>decide
 ·show qz 1<=1;have h:qz 1=max (sz 1) (sz 1):=rfl;rw[h,BZ];decide
theorem zo (x:Rat):(df x).length<=1:=by unfold df;split<;>simp
theorem U8 (v:Int):PV 9 (FO v)/\(FO v).length<=2:=by
 have hc:=kI (Dm v);have hn:=kI (Bz v);have hm:=uG (a:=[(iD ((v.tdiv 10) % 3).toNat,1)]) (by omega) (Dn _) hn;have hl:=Jy [(iD ((v.tdiv 10) % 3).toNat,1)] (df (zn v));have l1:=zo (zn v);have l2:=zo (uU (v % 5-2) 3);simp only[List.length_cons,List.length_nil]at hm hl;unfold FO;split
 ·refine⟨(pF (S:=4) (T:=4) (by omega) (by omega) (hc.mono (by omega)) (hm.mono (by omega))),?_⟩;have:=Ah (df (uU (v % 5-2) 3)) (lH [(iD ((v.tdiv 10) % 3).toNat,1)] (df (zn v)));omega
 ·exact⟨hc.mono (by omega),by omega⟩
theorem Od {k:Int}(hk:single k=true)(v:Int):(FP k v).of k 9 2:=by
 unfold FP;rcases a_ hk with rfl|rfl|rfl|rfl|rfl
 ·rw[if_pos rfl];exact⟨.inl rfl,Nat.le_trans (Bz v) (by omega)⟩
 ·rw[if_neg (by decide),if_pos rfl];have h1:=Int.emod_nonneg v (show(11:Int)≠0 by omega);have h2:=Int.emod_lt_of_pos v (show(0:Int)<11 by omega);split
  ·exact⟨rfl,by decide,by decide,fun _=>rfl⟩
  ·exact⟨rfl,h1,by omega,fun h=>by cases h⟩
 ·rw[if_neg (by decide),if_neg (by decide),if_pos rfl];have h1:=Int.emod_nonneg v (show(7:Int)≠0 by omega);have h2:=Int.emod_lt_of_pos v (show(0:Int)<7 by omega);have hs:qz (uU (v % 7) 6)<=1:=Mm (by omega) (by omega) (by omega);refine⟨.inr ⟨rfl,?_⟩,by omega⟩;have h3:v % 7=0\/v % 7=1\/v % 7=2\/v % 7=3\/v % 7=4\/v % 7=5\/v % 7=6:=by omega
  rcases h3 with h|h|h|h|h|h|h<;>rw[h]<;>decide +kernel
 ·rw[if_neg (by decide),if_neg (by decide),if_neg (by decide),if_pos rfl];have h1:=Int.emod_nonneg v (show(16:Int)≠0 by omega);have h2:=Int.emod_lt_of_pos v (show(0:Int)<16 by omega);exact⟨rfl,h1,by omega⟩
 ·rw[if_neg (by decide),if_neg (by decide),if_neg (by decide),if_neg (by decide)];exact⟨rfl,U8 v⟩
end Fi.S
namespace Fi.S
open Go Fi
set_option maxHeartbeats 8000000
theorem acM:bW E0 80 35 [.d (aP 2 [])] []=some (.d (Ml 2),none):=Y8 (by kernel_rfl)
theorem afr (v:Int)(hv:jr v):Ca E1 16 [.d (aP 1 []),.d (.v (.int .i64 v))] (.d (Sv.q (zn v)).w.d,none):=by
 obtain⟨N,t⟩:=(Ca.dW (FK v hv)).get;refine Ca.bD (n:=N+100) ?_;rw[av rfl (k16:E1.fn _=_) rfl];generalize zn v=x at*;simp only[Sv.w,W.d,W.ds,PD,aP,LK,qD,raw,LD,List.map_nil]at*;generalize qs x=s,LL (qn x)=ns,LL (qd x)=ds at*;simp -implicitDefEqProofs[f16,t]
theorem afs (v:Int)(hv:jr v):Ca E1 16 [.d (aP 2 []),.d (.v (.int .i64 v))] (.d (if v % 11=10 then Sv.c true 0 else .c false (v % 11)).w.d,none):=by
 obtain⟨N,hN,t,t2⟩:=((Ca.dW (l_ v 11 hv (by omega) (by omega))).j ((Ca.dW (Ca.of acM)).any)).at 0;refine Ca.bD (n:=N+100) ?_;rw[av rfl (k16:E1.fn _=_) rfl];generalize v % 11=j at*
 by_cases h:j=10
 ·subst h;rw[if_pos rfl];simp only[Sv.w,W.d,W.ds,PD,aP,LK,LD,LL,List.map_nil,Ml]at*;simp -implicitDefEqProofs[f16,t,t2]
 ·have h':(j==10)=false:=by simpa using h
  rw[if_neg h];simp only[Sv.w,W.d,W.ds,PD,aP,LK,LD,LL,List.map_nil]at*;simp -implicitDefEqProofs[f16,t,h,h']
theorem acN (v:Int)(hv:jr v):Ca E1 16 [.d (aP 3 []),.d (.v (.int .i64 v))] (.d (Sv.q (uU (v % 7) 6)).w.d,none):=by
 have h1:=Int.emod_nonneg v (show(7:Int)≠0 by omega);have h2:=Int.emod_lt_of_pos v (show(0:Int)<7 by omega);obtain⟨N,hN,t1,t2⟩:=((Ca.dW (l_ v 7 hv (by omega) (by omega))).j ((Ca.dW (Co (v % 7) 6 (by omega) (by decide) (by decide))).any)).at 0;refine Ca.bD (n:=N+100) ?_;rw[av rfl (k16:E1.fn _=_) rfl];generalize uU (v % 7) 6=x at*;generalize v % 7=j at*;simp only[Sv.w,W.d,W.ds,PD,aP,LK,qD,raw,LD,List.map_nil]at*;generalize qs x=s,LL (qn x)=ns,LL (qd x)=ds at*;simp -implicitDefEqProofs[f16,t1,t2]
theorem aft (v:Int)(hv:jr v):Ca E1 16 [.d (aP 4 []),.d (.v (.int .i64 v))] (.d (Sv.s (v % 16)).w.d,none):=by
 have h1:=Int.emod_nonneg v (show(16:Int)≠0 by omega);have h2:=Int.emod_lt_of_pos v (show(0:Int)<16 by omega);obtain⟨N,t⟩:=(Ca.dW (l_ v 16 hv (by omega) (by omega))).get;have w:ak .u64 (v % 16)=v % 16:=wrap_u64 (by omega);refine Ca.bD (n:=N+100) ?_;rw[av rfl (k16:E1.fn _=_) rfl];generalize v % 16=j at*;simp only[Sv.w,W.d,W.ds,PD,aP,LK,LD,LL,List.map_nil]at*;simp -implicitDefEqProofs[f16,t,w]
theorem U9 {v n:Int}(hv:jr v)(hn:2<=n):jr (v.tdiv n):=by
 have h:(v.tdiv n).natAbs=v.natAbs / n.natAbs:=Int.natAbs_tdiv v n;have h2:v.natAbs / n.natAbs<=v.natAbs / 2:=Nat.div_le_div_left (by omega) (by omega);unfold jr at*;omega
theorem afu (v:Int)(hv:jr v):Ca E1 16 [.d (aP 5 []),.d (.v (.int .i64 v))] (.d (Sv.p (FO v)).w.d,none):=by
 have h1:=Int.emod_nonneg v (show(5:Int)≠0 by omega);have h2:=Int.emod_lt_of_pos v (show(0:Int)<5 by omega);have h3:=Int.emod_nonneg (v.tdiv 10) (show(3:Int)≠0 by omega);have h4:=Int.emod_lt_of_pos (v.tdiv 10) (show(0:Int)<3 by omega);have r5:=U9 (n:=5) hv (by omega);have r10:=U9 (n:=10) hv (by omega);have w0:ak .i64 (v % 5-2)=v % 5-2:=wrap_i64 (by omega);have w1:ak .i64 (v.tdiv 5)=v.tdiv 5:=wrap_i64 r5;have w2:ak .i64 (v.tdiv 10)=v.tdiv 10:=wrap_i64 r10;obtain⟨N1,t1⟩:=(Ca.dW (l_ v 5 hv (by omega) (by omega))).any;obtain⟨N2,t2⟩:=(Ca.dW (Co (v % 5-2) 3 (by omega) (by decide) (by decide))).any;obtain⟨N3,t3⟩:=(FJ (uU (v % 5-2) 3) (by have:=Dm v;omega)).any;obtain⟨N4,t4⟩:=(Ca.dW (l_ (v.tdiv 5) 2 r5 (by omega) (by omega))).any;obtain⟨N5,t5⟩:=(Ca.dW (l_ (v.tdiv 10) 3 r10 (by omega) (by omega))).any;have hi3:((v.tdiv 10) % 3).toNat<3:=by omega
 have p6:=Qa ((v.tdiv 10) % 3).toNat hi3;have e6:((((v.tdiv 10) % 3).toNat:Nat):Int)=(v.tdiv 10) % 3:=by omega
 rw[e6]at p6;obtain⟨N6,t6⟩:=p6.any;obtain⟨N7,t7⟩:=(Ca.dW (FK v hv)).any;obtain⟨N8,t8⟩:=(P_ (S:=1) (by omega) (by omega) (Dn ((v.tdiv 10) % 3).toNat) (zn v) (Bz v) (by simp)).any;have hm:=uG (a:=[(iD ((v.tdiv 10) % 3).toNat,1)]) (by omega) (Dn _) (kI (Bz v));simp only[List.length_cons,List.length_nil]at hm;obtain⟨N9,t9⟩:=(JB (S:=4) (by omega) (by omega) ((kI (Dm v)).mono (by omega)) (hm.mono (by omega))).any;obtain⟨N,hN⟩:∃ N,N=N1+N2+N3+N4+N5+N6+N7+N8+N9:=⟨_,rfl⟩
 replace t1:=t1 N (by omega);replace t2:=t2 N (by omega);replace t3:=t3 N (by omega);replace t4:=t4 N (by omega);replace t5:=t5 N (by omega);replace t6:=t6 N (by omega);replace t7:=t7 N (by omega);replace t8:=t8 N (by omega);replace t9:=t9 N (by omega);refine Ca.bD (n:=N+150) ?_;rw[av rfl (k16:E1.fn _=_) rfl];rw[UL];unfold FO;clear hm hN p6 e6 hi3 h1 h2 h3 h4 r5 r10;generalize zn v=x,uU (v % 5-2) 3=y,((v.tdiv 10) % 3).toNat=pi at*;generalize (v.tdiv 10) % 3=j3,(v.tdiv 5) % 2=j2 at*
 by_cases h:j2=1
 ·subst h;rw[if_pos rfl];generalize jw (df y) (lH [(iD pi,1)] (df x))=R at*;generalize lH [(iD pi,1)] (df x)=P2,([(iD pi,1)]:List bz)=P1,df y=P0 at*;unfold aV at*;generalize (R.map fun p=>qC p.1 p.2)=z1,(P2.map fun p=>qC p.1 p.2)=z2,(P1.map fun p=>qC p.1 p.2)=z3,(P0.map fun p=>qC p.1 p.2)=z4 at*;simp only[aP,LK,qD,raw,LD,List.map_nil]at*;generalize qs x=s,LL (qn x)=ns,LL (qd x)=ds,qs y=s',LL (qn y)=ns',LL (qd y)=ds' at*;simp -implicitDefEqProofs[f16,t1,t2,t3,t4,t5,t6,t7,t8,t9,w0,w1,w2]
 ·have h':(j2==1)=false:=by simpa using h
  rw[if_neg h];unfold aV at*;generalize df y=P0 at*;generalize (P0.map fun p=>qC p.1 p.2)=z4 at*;simp only[aP,LK,qD,raw,LD,List.map_nil]at*;generalize qs y=s',LL (qn y)=ns',LL (qd y)=ds' at*;simp -implicitDefEqProofs[f16,t1,t2,t3,t4,w0,w1,h,h']
def mdL:aG:=f16.body.r.r.r.l.r.bl.lp
def Ha (kk:Int)(ps:List Int):ae:=.box [.d (.v (.int .i64 kk)),.d (.s 1 (LK .i64 ps))]
def Qi (v:Int)(i:Nat)(t:FV)(L:List ae):St :=
 (st0 [.u,.d (.v (.int .i64 v)),.r (.loc 0) 0,.r (.loc 1) 0,.u,.r (.loc 2) 0,.d (.v (.int .i64 i)),.u,.u,.u,.u,.u,.u,.u,.u,t] L)
theorem U_ (v:Int)(kk:Int)(ps:List Int)(i:Nat)(k:Int)(L:List ae)(px:FV)(zs:List D)(z:W)(hk:ps[i]?=some k)(hn:ps.length<=3)(h0:L[0]?=some (Ha kk ps))(h1:L[1]?=some (bQ (.d (.n 8))))(h2:L[2]?=some (bQ px))(ho:jR px L zs)(hz:zs.length<=3)
  (hc:Ca E1 16 [.d (aP k []),.d (.v (.int .i64 (ak .i64 (v+i))))] (.d z.d,none)) :
  ∃ mH L',Ex E1 mdL (Qi v i .u L) (.norm,Qi v (i+1) .u L')/\L'[0]?=some (Ha kk ps)/\L'[1]?=some (bQ (.d (.n 8)))/\L'[2]?=some (bQ mH)/\jR mH L' (zs++[z.d]):=by
 obtain⟨N,t⟩:=hc.get;have h0l:0<L.length:=(aW h0)
 have Qd:1<L.length:=(aW h1)
 have FL:2<L.length:=(aW h2)
 have hil:i<ps.length:=(aW hk)
 have n1:(LK .i64 ps).length=ps.length:=by simp[LK]
 have e1:(LK .i64 ps)[i]?=some (.v (.int .i64 k)):=by simp[LK,hk]
 have aQ:ak .i64 ((i:Int)+1)=(i:Int)+1:=wrap_i64 (by omega);have hk1:((i+1:Nat):Int)=(i:Int)+1:=by omega
 have hk0:(0:Int)<=(i:Int):=by omega
 have hkc:(i:Int)<(ps.length:Int):=by omega
 obtain⟨UW,yP,yQ,zc,zb,zu,zp,EG,ez⟩:=z.aF;rw[ez]at t ⊢;unfold wD aP at*;have e0:LK .i64 []=[]:=rfl;rw[e0]at t;rcases ho with ⟨rfl,rfl⟩|⟨j,az,rfl,hj⟩
 ·have g2:∀ X,(L++X)[2]?=some (bQ (.d (.n 8))):=fun X=>by rw[List.getElem?_append_left FL];exact h2
  refine⟨.ls (.loc L.length) 0 8 0 1,(L.set 2 (bQ (.ls (.loc L.length) 0 8 0 1)))++[.row 0 8 [(.a [D.v (.bool UW),.s 1 yP,.s 1 yQ,.v (.int .i64 zc),.v (.bool zb),.v (.int .u64 zu),.s 6 zp,.s 8 EG])]],Ex.of (n:=N+100) ?_,?_,?_,?_,?_⟩
  ·unfold Qi;rw[hk1];clear h1;unfold bQ Ha at*;generalize LK .i64 ps=l1 at*;have i1:=idx e1;have i2:=idx h2;have i0:=idx h0;simp -implicitDefEqProofs[mdL,f16,aQ,hk0,hkc,hil,n1,e1,i1,i0,i2,h0,h2,h0l,FL,t,most,g2]
  ·rw[List.getElem?_append_left (by simpa using h0l),List.getElem?_set_ne (by omega)];exact h0
  ·rw[List.getElem?_append_left (by simpa using Qd),List.getElem?_set_ne (by omega)];exact h1
  ·rw[List.getElem?_append_left (by simpa using FL)];exact List.getElem?_set_self FL
  ·exact .inr ⟨L.length,0,rfl,by simp⟩
 ·have hjl:j<L.length:=(aW hj)
  have hj2:j≠2:=fun h=>by
   subst h;rw[h2]at hj;cases hj
  have hj1:j≠1:=fun h=>by
   subst h;rw[h1]at hj;cases hj
  have hj0:j≠0:=fun h=>by
   subst h;rw[h0]at hj;cases hj
  have s2:∀ r,(L.set j r)[2]?=some (bQ (.ls (.loc j) az 8 0 zs.length)):=fun r=>by rw[List.getElem?_set_ne hj2];exact h2
  have m1:(zs.length+1)*128<=1099511627776:=by omega
  have m2:zs.length+1<=1099511627776:=by omega
  refine⟨.ls (.loc j) (az+1) 8 0 (zs.length+1),((L.set j (.row (az+1) 8 (zs++[(.a [D.v (.bool UW),.s 1 yP,.s 1 yQ,.v (.int .i64 zc),.v (.bool zb),.v (.int .u64 zu),.s 6 zp,.s 8 EG])]))).set 2 (bQ (.ls (.loc j) (az+1) 8 0 (zs.length+1)))),Ex.of (n:=N+100) ?_,?_,?_,?_,?_⟩
  ·unfold Qi;rw[hk1];clear h1;unfold bQ Ha at*;generalize LK .i64 ps=l1 at*;have i1:=idx e1;have i2:=idx h2;have i0:=idx h0;have i3:=idx hj;have i4:∀ r (h:2<(L.set j r).length),(L.set j r)[2]=_:=fun r h=>idx (s2 r) h
   simp -implicitDefEqProofs[mdL,f16,aQ,hk0,hkc,hil,n1,e1,i1,i0,i2,h0,h2,h0l,FL,t,most,i3,i4,hj,hjl,s2,m1,m2]
  ·rw[List.getElem?_set_ne (by omega),List.getElem?_set_ne hj0];exact h0
  ·rw[List.getElem?_set_ne (by omega),List.getElem?_set_ne hj1];exact h1
  ·exact List.getElem?_set_self (by simpa using FL)
  ·refine .inr ⟨j,az+1,by simp,?_⟩;rw[List.getElem?_set_ne (fun h=>hj2 h.symm)];exact List.getElem?_set_self hjl
theorem Y9 (v:Int)(kk:Int)(ps:List Int)(zs:List W)(hn:ps.length<=3)(hz:zs.length=ps.length)(hc:∀ (i:Nat) (k:Int) (z:W),ps[i]?=some k->zs[i]?=some z->Ca E1 16 [.d (aP k []),.d (.v (.int .i64 (ak .i64 (v+i))))] (.d z.d,none))
  (L:List ae) (h0:L[0]?=some (Ha kk ps)) (h1:L[1]?=some (bQ (.d (.n 8)))) (h2:L[2]?=some (bQ (.d (.n 8)))) :
  ∃ mH L',Ex E1 (.loop mdL) (Qi v 0 .u L) (.exit 1,Qi v ps.length (.d (.v (.bool false))) L')/\L'[1]?=some (bQ (.d (.n 8)))/\L'[2]?=some (bQ mH)/\jR mH L' (W.ds zs):=by
 have n1:(LK .i64 ps).length=ps.length:=by simp[LK]
 obtain⟨r,hx,mH,L',rfl,h5,h3,h4⟩:=Ex.inv (E:=E1) (b:=mdL) (α:=Nat × FV × List ae) (S:=fun a=>Qi v a.1 .u a.2.2) (fun a=>ps.length-a.1)
  (fun a=>a.1<=ps.length/\a.2.2[0]?=some (Ha kk ps)/\a.2.2[1]?=some (bQ (.d (.n 8)))/\a.2.2[2]?=some (bQ a.2.1)/\jR a.2.1 a.2.2 (W.ds (zs.take a.1)))
  (fun r=>∃ mH L',r=(.exit 1,Qi v ps.length (.d (.v (.bool false))) L')/\L'[1]?=some (bQ (.d (.n 8)))/\L'[2]?=some (bQ mH)/\jR mH L' (W.ds zs)) (by
   rintro⟨i,px,L⟩ ⟨q1,qa,q0,q2,q3⟩;simp only at q1 qa q0 q2 q3
   by_cases hi:i<ps.length
   ·have hk:ps[i]?=some ps[i]:=List.getElem?_eq_getElem hi;have hzi:zs[i]?=some (zs[i]'(by omega)):=List.getElem?_eq_getElem (by omega);have hlen:(W.ds (zs.take i)).length<=3:=by simp[W.eH];omega
    obtain⟨mH,L',g1,ga,g0,g2,g3⟩:=U_ v kk ps i ps[i] L px _ _ hk hn qa q0 q2 q3 hlen (hc i _ _ hk hzi);refine .inl ⟨(i+1,mH,L'),g1,by show ps.length-(i+1)<ps.length-i;omega,by show i+1<=_;omega,ga,g0,g2,?_⟩;show jR mH L' (W.ds (zs.take (i+1)));rw[List.take_add_one,hzi];have e:W.ds (zs.take i++[zs[i]'(by omega)])=W.ds (zs.take i)++[(zs[i]'(by omega)).d]:=by simp only[W.eH,List.map_append,List.map_cons,List.map_nil]
    show jR mH L' (W.ds (zs.take i++[zs[i]'(by omega)]));rw[e];exact g3
   ·obtain rfl:i=ps.length:=by omega
    rw[<-hz,List.take_length]at q3;refine .inr ⟨_,Ex.of (n:=60) ?_,?_,px,L,rfl,q0,q2,q3⟩
    ·unfold Qi;unfold Ha at qa;rw[<-n1];generalize LK .i64 ps=l1 at*;have i0:=idx qa;have h0l:0<L.length:=(aW qa)
     simp -implicitDefEqProofs[mdL,f16,qa,i0,h0l]
    ·simp) (0,.d (.n 8),L) ⟨Nat.zero_le _,h0,h1,h2,.inl ⟨rfl,rfl⟩⟩
 exact⟨mH,L',hx,h5,h3,h4⟩
theorem Va (v:Int)(ps:List Int)(zs:List W)(hn:ps.length<=3)(hz:zs.length=ps.length)(hc:∀ (i:Nat) (k:Int) (z:W),ps[i]?=some k->zs[i]?=some z->Ca E1 16 [.d (aP k []),.d (.v (.int .i64 (ak .i64 (v+i))))] (.d z.d,none)) :
  Ca E1 16 [.d (aP 6 ps),.d (.v (.int .i64 v))] (.d (fI zs).d,none):=by
 obtain⟨px,L,hl,h1,h2,ho⟩:=Y9 v 6 ps zs hn hz hc [Ha 6 ps,bQ (.d (.n 8)),bQ (.d (.n 8))] rfl rfl rfl;have hds:(fI zs).d=.a [.v (.bool false),.s 1 [],.s 1 [],.v (.int .i64 0),.v (.bool false),.v (.int .u64 0),.s 6 [],.s 8 (W.ds zs)]:=rfl;have Qd:1<L.length:=(aW h1)
 have hA:∃ st,Ex E1 f16.body.l (st0 [.d (aP 6 ps),.d (.v (.int .i64 v)),.u,.u,.u,.u,.u,.u,.u,.u,.u,.u,.u,.u,.u,.u] []) (.norm,st) /\
   st=(st0 [.u,.d (.v (.int .i64 v)),.r (.loc 0) 0,.r (.loc 1) 0,.u,.u,.u,.u,.u,.u,.u,.u,.u,.u,.u,.u] [Ha 6 ps,bQ (.d (.n 8))]):=by
  refine⟨_,Ex.of (n:=60) ?_,rfl⟩;unfold aP Ha bQ;generalize LK .i64 ps=l1 at*;simp -implicitDefEqProofs[f16]
 obtain⟨_,hA,rfl⟩:=hA;have hB:Ex E1 f16.body.r.l (st0 [.u,.d (.v (.int .i64 v)),.r (.loc 0) 0,.r (.loc 1) 0,.u,.u,.u,.u,.u,.u,.u,.u,.u,.u,.u,.u] [Ha 6 ps,bQ (.d (.n 8))])
   (.norm,(st0 [.u,.d (.v (.int .i64 v)),.r (.loc 0) 0,.r (.loc 1) 0,.u,.u,.u,.u,.u,.u,.u,.u,.u,.d (.v (.bool false)),.u,.u] [Ha 6 ps,bQ (.d (.n 8))])):=by
  refine Ex.of (n:=100) ?_;unfold Ha bQ;generalize LK .i64 ps=l1 at*;simp -implicitDefEqProofs[f16]
 have hC:Ex E1 f16.body.r.r.l (st0 [.u,.d (.v (.int .i64 v)),.r (.loc 0) 0,.r (.loc 1) 0,.u,.u,.u,.u,.u,.u,.u,.u,.u,.d (.v (.bool false)),.u,.u] [Ha 6 ps,bQ (.d (.n 8))])
   (.norm,(st0 [.u,.d (.v (.int .i64 v)),.r (.loc 0) 0,.r (.loc 1) 0,.u,.r (.loc 2) 0,.u,.u,.u,.u,.u,.u,.u,.u,.u,.u] [Ha 6 ps,bQ (.d (.n 8)),bQ (.d (.n 8))])):=by
  refine Ex.of (n:=60) ?_;unfold Ha bQ;generalize LK .i64 ps=l1 at*;simp -implicitDefEqProofs[f16]
 have hC2:Ex E1 f16.body.r.r.r.l.l (st0 [.u,.d (.v (.int .i64 v)),.r (.loc 0) 0,.r (.loc 1) 0,.u,.r (.loc 2) 0,.u,.u,.u,.u,.u,.u,.u,.u,.u,.u] [Ha 6 ps,bQ (.d (.n 8)),bQ (.d (.n 8))])
   (.norm,Qi v 0 .u [Ha 6 ps,bQ (.d (.n 8)),bQ (.d (.n 8))]):=by
  refine Ex.of (n:=60) ?_;unfold Qi Ha bQ;generalize LK .i64 ps=l1 at*;simp -implicitDefEqProofs[f16]
 have hD:Ex E1 f16.body.r.r.r.r (Qi v ps.length (.d (.v (.bool false))) L)
   (.ret,(st0 [.u,.u,.u,.r (.loc 1) 0,.u,.u,.u,.u,.u,.u,.u,.u,.u,.u,.u,.u] (L.set 1 (bQ px)))):=by
  refine Ex.of (n:=60) ?_;unfold Qi bQ at*;have i1:=idx h1;have i2:=idx h2;rcases ho with ⟨rfl,_⟩|⟨j,az,rfl,_⟩
  ·simp -implicitDefEqProofs[f16,h1,h2,i1,i2,Qd]
  ·simp -implicitDefEqProofs[f16,h1,h2,i1,i2,Qd]
 refine Ca.body (o:=.ret) (st1:=(st0 [.u,.u,.u,.r (.loc 1) 0,.u,.u,.u,.u,.u,.u,.u,.u,.u,.u,.u,.u] (L.set 1 (bQ px)))) rfl (k16:E1.fn _=_) rfl ?_ (by intro id h;cases h) ?_
 ·show Ex E1 (.seq f16.body.l (.seq f16.body.r.l (.seq f16.body.r.r.l (.seq (.seq f16.body.r.r.r.l.l (.block 1 (.loop mdL))) f16.body.r.r.r.r)))) _ _;exact hA.seq (hB.seq (hC.seq ((hC2.seq hl.block).seq hD)))
 ·rw[hds];unfold bQ at*;have s1:∀ o,(L.set 1 o)[1]?=some o:=fun o=>List.getElem?_set_self Qd
  rcases ho with ⟨rfl,e⟩|⟨j,az,rfl,hj⟩
  ·rw[e];simp -implicitDefEqProofs[f16,s1]
  ·have hj1:j≠1:=fun h=>by
    subst h;rw[h1]at hj;cases hj
   have sj:∀ o,(L.set 1 o)[j]?=some (.row az 8 (W.ds zs)):=fun o=>by rw[List.getElem?_set_ne (fun h=>hj1 h.symm)];exact hj
   have ev:ae.view az 8 0 (W.ds zs).length (.row az 8 (W.ds zs))=some (W.ds zs):=by simp[ae.view]
   generalize W.ds zs=es at*;simp -implicitDefEqProofs[f16,s1,sj,ev]
end Fi.S
namespace Fi.S
open Go Fi
set_option maxHeartbeats 8000000
set_option maxRecDepth 4000
theorem Dp:∀ w:W,w.nA->w.bC=true->w.Sm 3/\w.U1.length<=8
 | .mk s a b c i u p ps,ht,hl=>by
  rw[qF]at hl;simp only[Bool.and_eq_true,decide_eq_true_eq]at hl;obtain⟨⟨⟨⟨⟨h1,h2⟩,h3⟩,h4⟩,h5⟩,h6⟩:=hl;cases ht with
  | mk ha hb hp hu hw =>
   refine⟨.mk ha hb (by omega) (by omega) (fun m hm => ?_) hu (fun w hm=>(Dp w (hw w hm) (List.all_eq_true.1 h6 w hm)).1),h3⟩;have:=List.all_eq_true.1 h5 m hm;simp only[Mo.bC,Bool.and_eq_true,decide_eq_true_eq]at this;exact⟨(hp m hm).1,(hp m hm).2,by omega,by omega⟩
termination_by w=>sizeOf w
decreasing_by
 have:=List.sizeOf_lt_of_mem hm;simp;omega
theorem Mq {w:W}(ht:w.nA)(hl:w.bC=true):∀ x ∈ w.ps,x.Sm 3/\x.U1.length<=8:=by
 obtain⟨s,a,b,c,i,u,p,ps⟩:=w;rw[qF]at hl;simp only[Bool.and_eq_true,decide_eq_true_eq]at hl;cases ht with
 | mk ha hb hp hu hw=>exact fun x hx=>Dp x (hw x hx) (List.all_eq_true.1 hl.2 x hx)
def jS (S M:Nat)(ps:List Int)(xs:List Sv):Prop:=xs.length=ps.length/\∀ (i:Nat) (k:Int) (x:Sv),ps[i]?=some k->xs[i]?=some x->x.of k S M
theorem FQ:∀ {ps:List Int} {ws:List W},(∀ k ∈ ps,single k=true)->ws.length=ps.length->(∀ w ∈ ws,w.Sm 3/\w.U1.length<=8)->rJ ps ws=true->∃ xs:List Sv,ws=xs.map Sv.w/\jS 3 8 ps xs
 | [],[],_,_,_,_=>⟨[],rfl,rfl,fun i k x h=>by simp at h⟩
 | [],_::_,_,h,_,_=>by simp at h
 | _::_,[],_,h,_,_=>by simp at h
 | k::ps,w::ws,hs,hl,hw,h=>by
  simp only[rJ,Bool.and_eq_true]at h;obtain⟨x,rfl,hx⟩:=U2 (hs k (List.mem_cons_self ..)) (by omega) (hw w (List.mem_cons_self ..)).1 (hw w (List.mem_cons_self ..)).2 h.1;obtain⟨xs,rfl,h1,h2⟩:=FQ (fun k hk=>hs k (List.mem_cons_of_mem _ hk)) (by simpa using hl) (fun w h'=>hw w (List.mem_cons_of_mem _ h')) h.2;refine⟨x::xs,rfl,by simp[h1],fun i k' x' hk hx' => ?_⟩;cases i with
  | zero=>cases hk;cases hx';exact hx
  | succ i=>exact h2 i k' x' (by simpa using hk) (by simpa using hx')
theorem Oe {S M:Nat}:∀ {ps:List Int} {xs:List Sv},jS S M ps xs->rJ ps (xs.map Sv.w)=true
 | [],[],_=>rfl
 | [],_::_,h=>by simp[jS]at h
 | _::_,[],h=>by simp[jS]at h
 | k::ps,x::xs,h=>by
  simp only[List.map_cons,rJ,Bool.and_eq_true];exact⟨U3 (h.2 0 k x rfl rfl),Oe ⟨by simpa using h.1,fun i k' x' hk hx=>h.2 (i+1) k' x' (by simpa using hk) (by simpa using hx)⟩⟩
theorem Qj {w:W}(h:w.bare=true):w=fI w.ps:=by
 obtain⟨s,a,b,c,i,u,p,ps⟩:=w;simp only[W.bare,Bool.and_eq_true,Bool.not_eq_true',uH,List.isEmpty_iff,G6]at h;obtain⟨⟨⟨⟨⟨rfl,rfl,rfl⟩,rfl⟩,rfl⟩,rfl⟩,rfl⟩:=h;rfl
theorem Dq {S M:Nat}{ps:List Int}(hv:aH 6 ps=true){xs:List Sv}(h:jS S M ps xs):bO 6 ps (fI (xs.map Sv.w))=true:=by
 unfold bO;have h1:(fI (xs.map Sv.w)).ps=xs.map Sv.w:=rfl;have h2:(fI (xs.map Sv.w)).bare=true:=rfl;rw[hv,h1,h2,Oe h];simp[h.1]
theorem Og {S M:Nat}(hS:S<=1000){ps:List Int}(hps:ps.length<=3){xs:List Sv}(h:jS S M ps xs):(fI (xs.map Sv.w)).OK:=by
 have hl:bT []:=fun _ h=>(by cases h)
 refine .mk hl hl (by simp) (by simp) ⟨fun _ h=>(by cases h),by simp⟩ (by have:=h.1;simp;omega) (fun w hw => ?_);obtain⟨x,hx,rfl⟩:=List.mem_map.1 hw;obtain⟨i,hi,hxi⟩:=List.mem_iff_getElem.1 hx;have h1:xs[i]?=some x:=by rw[List.getElem?_eq_getElem hi,hxi]
 have h2:i<ps.length:=by rw[<-h.1];exact hi
 exact U4 (h.2 i _ x (List.getElem?_eq_getElem h2) h1) hS
noncomputable def gV (ps:List Int) (xs ys:List Sv):List Sv:=(ps.zip (xs.zip ys)).map fun p=>eu p.1 p.2.1 p.2.2
theorem tF {ps:List Int}{xs ys:List Sv}{i:Nat}{z:Sv}(h:(gV ps xs ys)[i]?=some z):∃ k x y,ps[i]?=some k/\xs[i]?=some x/\ys[i]?=some y/\z=eu k x y:=by
 unfold gV at h;rw[List.getElem?_map,Option.map_eq_some_iff]at h;obtain⟨⟨k,x,y⟩,h1,rfl⟩:=h;rw[List.getElem?_zip_eq_some]at h1;have h2:=h1.2;rw[List.getElem?_zip_eq_some]at h2;exact⟨k,x,y,h1.1,h2.1,h2.2,rfl⟩
theorem Mr {xs:List Sv}{i:Nat}{w:W}(h:(xs.map Sv.w)[i]?=some w):∃ x,xs[i]?=some x/\w=x.w:=by
 rw[List.getElem?_map,Option.map_eq_some_iff]at h;obtain⟨x,h1,rfl⟩:=h;exact⟨x,h1,rfl⟩
theorem Ms {S M:Nat}(hS:S<=1000)(hM:(M+M)*(S+1)<=50000){ps:List Int}(hv:aH 6 ps=true)(v w:W){xs ys:List Sv}(hx:jS S M ps xs)(hy:jS S M ps ys)
  (h1:Ca E1 41 [.d (aP 6 ps),.d v.d] (.d (fI (xs.map Sv.w)).d,none)) (h2:Ca E1 41 [.d (aP 6 ps),.d w.d] (.d (fI (ys.map Sv.w)).d,none)) :
  Ca E1 14 [.d (aP 6 ps),.d v.d,.d w.d] (.d (fI ((gV ps xs ys).map Sv.w)).d,none):=by
 obtain⟨_,_,hs⟩:=rg6 hv;refine UZ hv v w _ _ _ (by simp[hx.1]) (by simp[hy.1]) (by simp[gV,hx.1,hy.1]) h1 h2 (fun i k x y z hk hxi hyi hzi => ?_);obtain⟨x',g1,rfl⟩:=Mr hxi;obtain⟨y',g2,rfl⟩:=Mr hyi;obtain⟨z',g3,rfl⟩:=Mr hzi;obtain⟨k',x'',y'',f1,f2,f3,rfl⟩:=tF g3;rw[hk]at f1;rw[g1]at f2;rw[g2]at f3;cases f1;cases f2;cases f3;exact JJ (hs k (List.mem_of_getElem? hk)) hS hM (hx.2 i k _ hk g1) (hy.2 i k _ hk g2)
end Fi.S
