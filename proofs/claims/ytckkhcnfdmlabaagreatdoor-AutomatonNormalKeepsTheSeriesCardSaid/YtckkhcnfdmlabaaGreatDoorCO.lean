import Derived.Test.YtckkhcnfdmlabaaGreatDoorPZeroB
import Derived.Test.YtckkhcnfdmlabaaGreatDoorPZeroC
import Derived.Test.YtckkhcnfdmlabaaGreatDoorPZeroD
import Derived.Test.YtckkhcnfdmlabaaGreatDoorCM
set_option linter.unusedVariables false
set_option linter.unusedSimpArgs false
noncomputable section
namespace Fi.S
open Go Fi
set_option maxHeartbeats 8000000
theorem TS (k:Int)(ps:List Int)(h:aI k ps=true):iW k ps=true:=by
 have five:∀ {a:Int},single a=true->a ∈ [1,2,3,4,5]:=by
  intro a ha;simp only[single,Bool.and_eq_true,decide_eq_true_eq]at ha;simp only[List.mem_cons,List.not_mem_nil,or_false];omega
 have main:∀ {f:Int->Bool} {x:Int},([1,2,3,4,5].all f)=true->x ∈ [1,2,3,4,5]->f x=true:=by
  intro f x h1 h2;exact List.all_eq_true.1 h1 _ h2
 unfold aI at h
 by_cases hk:k=6
 ·subst hk;rw[if_neg (by simp)]at h;simp only[Bool.and_eq_true,decide_eq_true_eq,List.all_eq_true]at h;obtain⟨⟨h2,h3⟩,hs⟩:=h
  match ps,h2,h3,hs with
  | [a,b],_,_,hs =>
   have ha:=five (hs a (by simp));have hb:=five (hs b (by simp));simp only[List.mem_cons,List.not_mem_nil,or_false]at ha;rcases ha with rfl|rfl|rfl|rfl|rfl
   ·exact main (f:=fun k=>iW 6 [1,k]) (x:=b) adY hb
   ·exact main (f:=fun k=>iW 6 [2,k]) (x:=b) adZ hb
   ·exact main (f:=fun k=>iW 6 [3,k]) (x:=b) ad1 hb
   ·exact main (f:=fun k=>iW 6 [4,k]) (x:=b) ad2 hb
   ·exact main (f:=fun k=>iW 6 [5,k]) (x:=b) ad3 hb
  | [a,b,c],_,_,hs =>
   have ha:=five (hs a (by simp));have hb:=five (hs b (by simp));have hc:=five (hs c (by simp));simp only[List.mem_cons,List.not_mem_nil,or_false]at ha hb;rcases ha with rfl|rfl|rfl|rfl|rfl<;>rcases hb with rfl|rfl|rfl|rfl|rfl
   ·exact main (f:=fun k=>iW 6 [1,1,k]) (x:=c) aaP hc
   ·exact main (f:=fun k=>iW 6 [1,2,k]) (x:=c) aaQ hc
   ·exact main (f:=fun k=>iW 6 [1,3,k]) (x:=c) aaR hc
   ·exact main (f:=fun k=>iW 6 [1,4,k]) (x:=c) aaS hc
   ·exact main (f:=fun k=>iW 6 [1,5,k]) (x:=c) aaT hc
   ·exact main (f:=fun k=>iW 6 [2,1,k]) (x:=c) aaU hc
   ·exact main (f:=fun k=>iW 6 [2,2,k]) (x:=c) aaV hc
   ·exact main (f:=fun k=>iW 6 [2,3,k]) (x:=c) aaW hc
   ·exact main (f:=fun k=>iW 6 [2,4,k]) (x:=c) aaX hc
   ·exact main (f:=fun k=>iW 6 [2,5,k]) (x:=c) aaY hc
   ·exact main (f:=fun k=>iW 6 [3,1,k]) (x:=c) aaZ hc
   ·exact main (f:=fun k=>iW 6 [3,2,k]) (x:=c) aa0 hc
   ·exact main (f:=fun k=>iW 6 [3,3,k]) (x:=c) aa1 hc
   ·exact main (f:=fun k=>iW 6 [3,4,k]) (x:=c) aa2 hc
   ·exact main (f:=fun k=>iW 6 [3,5,k]) (x:=c) aa3 hc
   ·exact main (f:=fun k=>iW 6 [4,1,k]) (x:=c) aa4 hc
   ·exact main (f:=fun k=>iW 6 [4,2,k]) (x:=c) aa5 hc
   ·exact main (f:=fun k=>iW 6 [4,3,k]) (x:=c) aa6 hc
   ·exact main (f:=fun k=>iW 6 [4,4,k]) (x:=c) aa7 hc
   ·exact main (f:=fun k=>iW 6 [4,5,k]) (x:=c) aa8 hc
   ·exact main (f:=fun k=>iW 6 [5,1,k]) (x:=c) aa9 hc
   ·exact main (f:=fun k=>iW 6 [5,2,k]) (x:=c) aa_ hc
   ·exact main (f:=fun k=>iW 6 [5,3,k]) (x:=c) aa' hc
   ·exact main (f:=fun k=>iW 6 [5,4,k]) (x:=c) aba hc
   ·exact main (f:=fun k=>iW 6 [5,5,k]) (x:=c) abb hc
 ·rw[if_pos hk]at h;simp only[Bool.and_eq_true,decide_eq_true_eq]at h;obtain⟨h1,rfl⟩:=h;exact main (f:=fun k=>iW k []) (x:=k) agm (five h1)
def IJ (k:Int)(ps:List Int):W:=if k=6 then fH (ps.map fun k=>(dC k).w) else(dC k).w
theorem Nh (k:Int):(dC k).w.d=Lc k:=by
 have h1:qs 0=false:=by decide
 have h2:qn 0=[]:=dn;have h3:qd 0=[]:=if_pos rfl;unfold dC Lc
 by_cases a:k=2
 ·subst a;rfl
 ·have e:(k==2)=false:=by simpa using a
  rw[if_neg a,e]
  by_cases b:k=4
  ·rw[if_pos b];rfl
  ·rw[if_neg b]
   by_cases c:k=5
   ·rw[if_pos c];rfl
   ·rw[if_neg c];simp only[Sv.w,W.d,W.ds,h1,h2,h3,LD,LL,PD,List.map_nil]
theorem XG (k:Int)(ps:List Int):(IJ k ps).d=TT k ps:=by
 unfold IJ TT
 by_cases h:k=6
 ·rw[if_pos h,if_pos h];have:W.ds (ps.map fun k=>(dC k).w)=ps.map Lc:=by
   rw[W.gM,List.map_map];exact List.map_congr_left fun x _=>Nh x
  show D.a [.v (.bool false),.s 1 [],.s 1 [],.v (.int .i64 0),.v (.bool false),.v (.int .u64 0),.s 6 [],.s 8 (W.ds (ps.map fun k=>(dC k).w))]=_;rw[this]
 ·rw[if_neg h,if_neg h,Nh]
theorem TU {k:Int}{ps:List Int}(h:aI k ps=true):Ca E1 26 [.d (bz k ps)] (.d (IJ k ps).d,none):=by
 have h1:=TS k ps h;unfold iW at h1;rw[Bool.and_eq_true]at h1;have h2:=h1.1;split at h2
 ·rename_i z hz;rw[XG,<-mo h2];exact Ca.fG (Ca.of hz)
 ·cases h2
theorem XH {k:Int}{ps:List Int}(h:aI k ps=true):Ca E1 27 [.d (bz k ps)] (.d (Ew k ps),none)/\Ca E1 20 [.d (bz k ps)] (.d (Ew k ps),none):=by
 obtain⟨K,hK⟩:=Pg;have h1:=TS k ps h;unfold iW at h1;rw[Bool.and_eq_true,Bool.and_eq_true]at h1;obtain⟨_,h2,h3⟩:=h1;refine⟨?_,?_⟩
 ·split at h2
  ·rename_i z hz;rw[<-mo h2];exact Ca.of (Ey hK hz)
  ·cases h2
 ·split at h3
  ·rename_i z hz;rw[<-mo h3];exact Ca.of (Ey hK hz)
  ·cases h3
noncomputable def yU (v:Int):List aW :=
 if (v.tdiv 5) % 2=1 then fQ (bV (qH (v % 5-2) 3)) (iA [(gN ((v.tdiv 10) % 3).toNat,1)] (bV (tH v))) else bV (qH (v % 5-2) 3)
noncomputable def Bz (k v:Int):Sv :=
 if k=1 then .q (tH v) else if k=2 then(if v % 11=10 then .c true 0 else .c false (v % 11)) else if k=3 then .q (qH (v % 7) 6) else if k=4 then .s (v % 16) else .p (yU v)
theorem Ld {a b:Int}(ha:a.natAbs<4294967296)(hb:b.natAbs<4294967296)(hb0:b≠0):qz (qH a b)<=1:=by
 unfold qH;refine Nat.le_trans (AJ (by omega)) ?_;have h1:sz a.natAbs<=1:=tQ (by omega);have h2:sz b.natAbs<=1:=tQ (by omega);exact Nat.max_le.2 ⟨h1,h2⟩
theorem zZ (v:Int):qz (tH v)<=1:=by
 have h1:=Int.emod_nonneg v (show(13:Int)≠0 by omega);have h2:=Int.emod_lt_of_pos v (show(0:Int)<13 by omega);have h3:=Int.emod_nonneg (v.tdiv 13) (show(3:Int)≠0 by omega);have h4:=Int.emod_lt_of_pos (v.tdiv 13) (show(0:Int)<3 by omega);exact Ld (by omega) (by omega) (by omega)
theorem BA (v:Int):qz (qH (v % 5-2) 3)<=1:=by
 have h1:=Int.emod_nonneg v (show(5:Int)≠0 by omega);have h2:=Int.emod_lt_of_pos v (show(0:Int)<5 by omega);exact Ld (by omega) (by omega) (by omega)
theorem BB (i:Nat):PV 1 [(gN i,1)]:=by
 refine⟨List.pairwise_cons.2 ⟨fun _ h=>(by cases h),List.Pairwise.nil⟩,fun p hp => ?_,fun p hp => ?_,fun p hp => ?_⟩<;>(rw[List.mem_singleton]at hp;subst hp)
 ·exact(by decide:(1:Rat)≠0)
 ·show bP (gN i)=true;unfold gN;split
  ·decide
  ·split<;>decide
 ·show qz 1<=1;have h:qz 1=max (sz 1) (sz 1):=rfl;rw[h,Ay];decide
theorem xQ (x:Rat):(bV x).length<=1:=by unfold bV;split<;>simp
theorem TV (v:Int):PV 9 (yU v)/\(yU v).length<=2:=by
 have hc:=jX (BA v);have hn:=jX (zZ v);have hm:=gT (a:=[(gN ((v.tdiv 10) % 3).toNat,1)]) (by omega) (BB _) hn;have hl:=yQ [(gN ((v.tdiv 10) % 3).toNat,1)] (bV (tH v));have l1:=xQ (tH v);have l2:=xQ (qH (v % 5-2) 3);simp only[List.length_cons,List.length_nil]at hm hl;unfold yU;split
 ·refine⟨(gp (S:=4) (T:=4) (by omega) (by omega) (hc.mono (by omega)) (hm.mono (by omega))),?_⟩;have:=yP (bV (qH (v % 5-2) 3)) (iA [(gN ((v.tdiv 10) % 3).toNat,1)] (bV (tH v)));omega
 ·exact⟨hc.mono (by omega),by omega⟩
theorem Ni {k:Int}(hk:single k=true)(v:Int):(Bz k v).of k 9 2:=by
 unfold Bz;rcases aL hk with rfl|rfl|rfl|rfl|rfl
 ·rw[if_pos rfl];exact⟨.inl rfl,Nat.le_trans (zZ v) (by omega)⟩
 ·rw[if_neg (by decide),if_pos rfl];have h1:=Int.emod_nonneg v (show(11:Int)≠0 by omega);have h2:=Int.emod_lt_of_pos v (show(0:Int)<11 by omega);split
  ·exact⟨rfl,by decide,by decide,fun _=>rfl⟩
  ·exact⟨rfl,h1,by omega,fun h=>by cases h⟩
 ·rw[if_neg (by decide),if_neg (by decide),if_pos rfl];have h1:=Int.emod_nonneg v (show(7:Int)≠0 by omega);have h2:=Int.emod_lt_of_pos v (show(0:Int)<7 by omega);have hs:qz (qH (v % 7) 6)<=1:=Ld (by omega) (by omega) (by omega);refine⟨.inr ⟨rfl,?_⟩,by omega⟩;have h3:v % 7=0\/v % 7=1\/v % 7=2\/v % 7=3\/v % 7=4\/v % 7=5\/v % 7=6:=by omega
  rcases h3 with h|h|h|h|h|h|h<;>rw[h]<;>decide +kernel
 ·rw[if_neg (by decide),if_neg (by decide),if_neg (by decide),if_pos rfl];have h1:=Int.emod_nonneg v (show(16:Int)≠0 by omega);have h2:=Int.emod_lt_of_pos v (show(0:Int)<16 by omega);exact⟨rfl,h1,by omega⟩
 ·rw[if_neg (by decide),if_neg (by decide),if_neg (by decide),if_neg (by decide)];exact⟨rfl,TV v⟩
end Fi.S
namespace Fi.S
open Go Fi
set_option maxHeartbeats 8000000
theorem abd:bU E0 80 35 [.d (bz 2 [])] []=some (.d (Lc 2),none):=XI (by kernel_rfl)
theorem ad4 (v:Int)(hv:fu v):Ca E1 16 [.d (bz 1 []),.d (.v (.int .i64 v))] (.d (Sv.q (tH v)).w.d,none):=by
 obtain⟨N,t⟩:=(Ca.fG (Eu v hv)).get;refine Ca.bO (n:=N+100) ?_;rw[ak rfl (k16:E1.fn _=_) rfl];generalize tH v=x at*;simp only[Sv.w,W.d,W.ds,PD,bz,LK,qD,raw,LD,List.map_nil]at*;generalize qs x=s,LL (qn x)=ns,LL (qd x)=ds at*;simp -implicitDefEqProofs[f16,t]
theorem ad5 (v:Int)(hv:fu v):Ca E1 16 [.d (bz 2 []),.d (.v (.int .i64 v))] (.d (if v % 11=10 then Sv.c true 0 else .c false (v % 11)).w.d,none):=by
 obtain⟨N,hN,t,t2⟩:=((Ca.fG (iN v 11 hv (by omega) (by omega))).j ((Ca.fG (Ca.of abd)).any)).at 0;refine Ca.bO (n:=N+100) ?_;rw[ak rfl (k16:E1.fn _=_) rfl];generalize v % 11=j at*
 by_cases h:j=10
 ·subst h;rw[if_pos rfl];simp only[Sv.w,W.d,W.ds,PD,bz,LK,LD,LL,List.map_nil,Lc]at*;simp -implicitDefEqProofs[f16,t,t2]
 ·have h':(j==10)=false:=by simpa using h
  rw[if_neg h];simp only[Sv.w,W.d,W.ds,PD,bz,LK,LD,LL,List.map_nil]at*;simp -implicitDefEqProofs[f16,t,h,h']
theorem abe (v:Int)(hv:fu v):Ca E1 16 [.d (bz 3 []),.d (.v (.int .i64 v))] (.d (Sv.q (qH (v % 7) 6)).w.d,none):=by
 have h1:=Int.emod_nonneg v (show(7:Int)≠0 by omega);have h2:=Int.emod_lt_of_pos v (show(0:Int)<7 by omega);obtain⟨N,hN,t1,t2⟩:=((Ca.fG (iN v 7 hv (by omega) (by omega))).j ((Ca.fG (AY (v % 7) 6 (by omega) (by decide) (by decide))).any)).at 0;refine Ca.bO (n:=N+100) ?_;rw[ak rfl (k16:E1.fn _=_) rfl];generalize qH (v % 7) 6=x at*;generalize v % 7=j at*;simp only[Sv.w,W.d,W.ds,PD,bz,LK,qD,raw,LD,List.map_nil]at*;generalize qs x=s,LL (qn x)=ns,LL (qd x)=ds at*;simp -implicitDefEqProofs[f16,t1,t2]
theorem ad6 (v:Int)(hv:fu v):Ca E1 16 [.d (bz 4 []),.d (.v (.int .i64 v))] (.d (Sv.s (v % 16)).w.d,none):=by
 have h1:=Int.emod_nonneg v (show(16:Int)≠0 by omega);have h2:=Int.emod_lt_of_pos v (show(0:Int)<16 by omega);obtain⟨N,t⟩:=(Ca.fG (iN v 16 hv (by omega) (by omega))).get;have w:ah .u64 (v % 16)=v % 16:=wrap_u64 (by omega);refine Ca.bO (n:=N+100) ?_;rw[ak rfl (k16:E1.fn _=_) rfl];generalize v % 16=j at*;simp only[Sv.w,W.d,W.ds,PD,bz,LK,LD,LL,List.map_nil]at*;simp -implicitDefEqProofs[f16,t,w]
theorem TW {v n:Int}(hv:fu v)(hn:2<=n):fu (v.tdiv n):=by
 have h:(v.tdiv n).natAbs=v.natAbs / n.natAbs:=Int.natAbs_tdiv v n;have h2:v.natAbs / n.natAbs<=v.natAbs / 2:=Nat.div_le_div_left (by omega) (by omega);unfold fu at*;omega
theorem ad7 (v:Int)(hv:fu v):Ca E1 16 [.d (bz 5 []),.d (.v (.int .i64 v))] (.d (Sv.p (yU v)).w.d,none):=by
 have h1:=Int.emod_nonneg v (show(5:Int)≠0 by omega);have h2:=Int.emod_lt_of_pos v (show(0:Int)<5 by omega);have h3:=Int.emod_nonneg (v.tdiv 10) (show(3:Int)≠0 by omega);have h4:=Int.emod_lt_of_pos (v.tdiv 10) (show(0:Int)<3 by omega);have r5:=TW (n:=5) hv (by omega);have r10:=TW (n:=10) hv (by omega);have w0:ah .i64 (v % 5-2)=v % 5-2:=wrap_i64 (by omega);have w1:ah .i64 (v.tdiv 5)=v.tdiv 5:=wrap_i64 r5;have w2:ah .i64 (v.tdiv 10)=v.tdiv 10:=wrap_i64 r10;obtain⟨N1,t1⟩:=(Ca.fG (iN v 5 hv (by omega) (by omega))).any;obtain⟨N2,t2⟩:=(Ca.fG (AY (v % 5-2) 3 (by omega) (by decide) (by decide))).any;obtain⟨N3,t3⟩:=(Et (qH (v % 5-2) 3) (by have:=BA v;omega)).any;obtain⟨N4,t4⟩:=(Ca.fG (iN (v.tdiv 5) 2 r5 (by omega) (by omega))).any;obtain⟨N5,t5⟩:=(Ca.fG (iN (v.tdiv 10) 3 r10 (by omega) (by omega))).any;have hi3:((v.tdiv 10) % 3).toNat<3:=by omega
 have p6:=O6 ((v.tdiv 10) % 3).toNat hi3;have e6:((((v.tdiv 10) % 3).toNat:Nat):Int)=(v.tdiv 10) % 3:=by omega
 rw[e6]at p6;obtain⟨N6,t6⟩:=p6.any;obtain⟨N7,t7⟩:=(Ca.fG (Eu v hv)).any;obtain⟨N8,t8⟩:=(O5 (S:=1) (by omega) (by omega) (BB ((v.tdiv 10) % 3).toNat) (tH v) (zZ v) (by simp)).any;have hm:=gT (a:=[(gN ((v.tdiv 10) % 3).toNat,1)]) (by omega) (BB _) (jX (zZ v));simp only[List.length_cons,List.length_nil]at hm;obtain⟨N9,t9⟩:=(Iu (S:=4) (by omega) (by omega) ((jX (BA v)).mono (by omega)) (hm.mono (by omega))).any;obtain⟨N,hN⟩:∃ N,N=N1+N2+N3+N4+N5+N6+N7+N8+N9:=⟨_,rfl⟩
 replace t1:=t1 N (by omega);replace t2:=t2 N (by omega);replace t3:=t3 N (by omega);replace t4:=t4 N (by omega);replace t5:=t5 N (by omega);replace t6:=t6 N (by omega);replace t7:=t7 N (by omega);replace t8:=t8 N (by omega);replace t9:=t9 N (by omega);refine Ca.bO (n:=N+150) ?_;rw[ak rfl (k16:E1.fn _=_) rfl];rw[TA];unfold yU;clear hm hN p6 e6 hi3 h1 h2 h3 h4 r5 r10;generalize tH v=x,qH (v % 5-2) 3=y,((v.tdiv 10) % 3).toNat=pi at*;generalize (v.tdiv 10) % 3=j3,(v.tdiv 5) % 2=j2 at*
 by_cases h:j2=1
 ·subst h;rw[if_pos rfl];generalize fQ (bV y) (iA [(gN pi,1)] (bV x))=R at*;generalize iA [(gN pi,1)] (bV x)=P2,([(gN pi,1)]:List aW)=P1,bV y=P0 at*;unfold aR at*;generalize (R.map fun p=>qC p.1 p.2)=z1,(P2.map fun p=>qC p.1 p.2)=z2,(P1.map fun p=>qC p.1 p.2)=z3,(P0.map fun p=>qC p.1 p.2)=z4 at*;simp only[bz,LK,qD,raw,LD,List.map_nil]at*;generalize qs x=s,LL (qn x)=ns,LL (qd x)=ds,qs y=s',LL (qn y)=ns',LL (qd y)=ds' at*;simp -implicitDefEqProofs[f16,t1,t2,t3,t4,t5,t6,t7,t8,t9,w0,w1,w2]
 ·have h':(j2==1)=false:=by simpa using h
  rw[if_neg h];unfold aR at*;generalize bV y=P0 at*;generalize (P0.map fun p=>qC p.1 p.2)=z4 at*;simp only[bz,LK,qD,raw,LD,List.map_nil]at*;generalize qs y=s',LL (qn y)=ns',LL (qd y)=ds' at*;simp -implicitDefEqProofs[f16,t1,t2,t3,t4,w0,w1,h,h']
def mdL:aH:=f16.body.r.r.r.l.r.bl.lp
def FX (kk:Int)(ps:List Int):ae:=.box [.d (.v (.int .i64 kk)),.d (.s 1 (LK .i64 ps))]
def Ph (v:Int)(i:Nat)(t:FV)(L:List ae):St :=
 (st0 [.u,.d (.v (.int .i64 v)),.r (.loc 0) 0,.r (.loc 1) 0,.u,.r (.loc 2) 0,.d (.v (.int .i64 i)),.u,.u,.u,.u,.u,.u,.u,.u,t] L)
theorem TY (v:Int)(kk:Int)(ps:List Int)(i:Nat)(k:Int)(L:List ae)(px:FV)(zs:List D)(z:W)(hk:ps[i]?=some k)(hn:ps.length<=3)(h0:L[0]?=some (FX kk ps))(h1:L[1]?=some (bn (.d (.n 8))))(h2:L[2]?=some (bn px))(ho:jD px L zs)(hz:zs.length<=3)
  (hc:Ca E1 16 [.d (bz k []),.d (.v (.int .i64 (ah .i64 (v+i))))] (.d z.d,none)) :
  ∃ vV L',Ex E1 mdL (Ph v i .u L) (.norm,Ph v (i+1) .u L')/\L'[0]?=some (FX kk ps)/\L'[1]?=some (bn (.d (.n 8)))/\L'[2]?=some (bn vV)/\jD vV L' (zs++[z.d]):=by
 obtain⟨N,t⟩:=hc.get;have h0l:0<L.length:=(bH h0)
 have O9:1<L.length:=(bH h1)
 have Ev:2<L.length:=(bH h2)
 have hil:i<ps.length:=(bH hk)
 have n1:(LK .i64 ps).length=ps.length:=by simp[LK]
 have e1:(LK .i64 ps)[i]?=some (.v (.int .i64 k)):=by simp[LK,hk]
 have bD:ah .i64 ((i:Int)+1)=(i:Int)+1:=wrap_i64 (by omega);have hk1:((i+1:Nat):Int)=(i:Int)+1:=by omega
 have hk0:(0:Int)<=(i:Int):=by omega
 have hkc:(i:Int)<(ps.length:Int):=by omega
 obtain⟨TJ,FP,FQ,zc,zb,zu,zp,GQ,ez⟩:=z.aM;rw[ez]at t ⊢;unfold wD bz at*;have e0:LK .i64 []=[]:=rfl;rw[e0]at t;rcases ho with ⟨rfl,rfl⟩|⟨j,az,rfl,hj⟩
 ·have g2:∀ X,(L++X)[2]?=some (bn (.d (.n 8))):=fun X=>by rw[List.getElem?_append_left Ev];exact h2
  refine⟨.ls (.loc L.length) 0 8 0 1,(L.set 2 (bn (.ls (.loc L.length) 0 8 0 1)))++[.row 0 8 [(.a [D.v (.bool TJ),.s 1 FP,.s 1 FQ,.v (.int .i64 zc),.v (.bool zb),.v (.int .u64 zu),.s 6 zp,.s 8 GQ])]],Ex.of (n:=N+100) ?_,?_,?_,?_,?_⟩
  ·unfold Ph;rw[hk1];clear h1;unfold bn FX at*;generalize LK .i64 ps=l1 at*;have i1:=idx e1;have i2:=idx h2;have i0:=idx h0;simp -implicitDefEqProofs[mdL,f16,bD,hk0,hkc,hil,n1,e1,i1,i0,i2,h0,h2,h0l,Ev,t,most,g2]
  ·rw[List.getElem?_append_left (by simpa using h0l),List.getElem?_set_ne (by omega)];exact h0
  ·rw[List.getElem?_append_left (by simpa using O9),List.getElem?_set_ne (by omega)];exact h1
  ·rw[List.getElem?_append_left (by simpa using Ev)];exact List.getElem?_set_self Ev
  ·exact .inr ⟨L.length,0,rfl,by simp⟩
 ·have hjl:j<L.length:=(bH hj)
  have hj2:j≠2:=fun h=>by
   subst h;rw[h2]at hj;cases hj
  have hj1:j≠1:=fun h=>by
   subst h;rw[h1]at hj;cases hj
  have hj0:j≠0:=fun h=>by
   subst h;rw[h0]at hj;cases hj
  have s2:∀ r,(L.set j r)[2]?=some (bn (.ls (.loc j) az 8 0 zs.length)):=fun r=>by rw[List.getElem?_set_ne hj2];exact h2
  have m1:(zs.length+1)*128<=1099511627776:=by omega
  have m2:zs.length+1<=1099511627776:=by omega
  refine⟨.ls (.loc j) (az+1) 8 0 (zs.length+1),((L.set j (.row (az+1) 8 (zs++[(.a [D.v (.bool TJ),.s 1 FP,.s 1 FQ,.v (.int .i64 zc),.v (.bool zb),.v (.int .u64 zu),.s 6 zp,.s 8 GQ])]))).set 2 (bn (.ls (.loc j) (az+1) 8 0 (zs.length+1)))),Ex.of (n:=N+100) ?_,?_,?_,?_,?_⟩
  ·unfold Ph;rw[hk1];clear h1;unfold bn FX at*;generalize LK .i64 ps=l1 at*;have i1:=idx e1;have i2:=idx h2;have i0:=idx h0;have i3:=idx hj;have i4:∀ r (h:2<(L.set j r).length),(L.set j r)[2]=_:=fun r h=>idx (s2 r) h
   simp -implicitDefEqProofs[mdL,f16,bD,hk0,hkc,hil,n1,e1,i1,i0,i2,h0,h2,h0l,Ev,t,most,i3,i4,hj,hjl,s2,m1,m2]
  ·rw[List.getElem?_set_ne (by omega),List.getElem?_set_ne hj0];exact h0
  ·rw[List.getElem?_set_ne (by omega),List.getElem?_set_ne hj1];exact h1
  ·exact List.getElem?_set_self (by simpa using Ev)
  ·refine .inr ⟨j,az+1,by simp,?_⟩;rw[List.getElem?_set_ne (fun h=>hj2 h.symm)];exact List.getElem?_set_self hjl
theorem XJ (v:Int)(kk:Int)(ps:List Int)(zs:List W)(hn:ps.length<=3)(hz:zs.length=ps.length)(hc:∀ (i:Nat) (k:Int) (z:W),ps[i]?=some k->zs[i]?=some z->Ca E1 16 [.d (bz k []),.d (.v (.int .i64 (ah .i64 (v+i))))] (.d z.d,none))
  (L:List ae) (h0:L[0]?=some (FX kk ps)) (h1:L[1]?=some (bn (.d (.n 8)))) (h2:L[2]?=some (bn (.d (.n 8)))) :
  ∃ vV L',Ex E1 (.loop mdL) (Ph v 0 .u L) (.exit 1,Ph v ps.length (.d (.v (.bool false))) L')/\L'[1]?=some (bn (.d (.n 8)))/\L'[2]?=some (bn vV)/\jD vV L' (W.ds zs):=by
 have n1:(LK .i64 ps).length=ps.length:=by simp[LK]
 obtain⟨r,hx,vV,L',rfl,h5,h3,h4⟩:=Ex.inv (E:=E1) (b:=mdL) (α:=Nat × FV × List ae) (S:=fun a=>Ph v a.1 .u a.2.2) (fun a=>ps.length-a.1)
  (fun a=>a.1<=ps.length/\a.2.2[0]?=some (FX kk ps)/\a.2.2[1]?=some (bn (.d (.n 8)))/\a.2.2[2]?=some (bn a.2.1)/\jD a.2.1 a.2.2 (W.ds (zs.take a.1)))
  (fun r=>∃ vV L',r=(.exit 1,Ph v ps.length (.d (.v (.bool false))) L')/\L'[1]?=some (bn (.d (.n 8)))/\L'[2]?=some (bn vV)/\jD vV L' (W.ds zs)) (by
   rintro⟨i,px,L⟩ ⟨q1,qa,q0,q2,q3⟩;simp only at q1 qa q0 q2 q3
   by_cases hi:i<ps.length
   ·have hk:ps[i]?=some ps[i]:=List.getElem?_eq_getElem hi;have hzi:zs[i]?=some (zs[i]'(by omega)):=List.getElem?_eq_getElem (by omega);have hlen:(W.ds (zs.take i)).length<=3:=by simp[W.gM];omega
    obtain⟨vV,L',g1,ga,g0,g2,g3⟩:=TY v kk ps i ps[i] L px _ _ hk hn qa q0 q2 q3 hlen (hc i _ _ hk hzi);refine .inl ⟨(i+1,vV,L'),g1,by show ps.length-(i+1)<ps.length-i;omega,by show i+1<=_;omega,ga,g0,g2,?_⟩;show jD vV L' (W.ds (zs.take (i+1)));rw[List.take_add_one,hzi];have e:W.ds (zs.take i++[zs[i]'(by omega)])=W.ds (zs.take i)++[(zs[i]'(by omega)).d]:=by simp only[W.gM,List.map_append,List.map_cons,List.map_nil]
    show jD vV L' (W.ds (zs.take i++[zs[i]'(by omega)]));rw[e];exact g3
   ·obtain rfl:i=ps.length:=by omega
    rw[<-hz,List.take_length]at q3;refine .inr ⟨_,Ex.of (n:=60) ?_,?_,px,L,rfl,q0,q2,q3⟩
    ·unfold Ph;unfold FX at qa;rw[<-n1];generalize LK .i64 ps=l1 at*;have i0:=idx qa;have h0l:0<L.length:=(bH qa)
     simp -implicitDefEqProofs[mdL,f16,qa,i0,h0l]
    ·simp) (0,.d (.n 8),L) ⟨Nat.zero_le _,h0,h1,h2,.inl ⟨rfl,rfl⟩⟩
 exact⟨vV,L',hx,h5,h3,h4⟩
theorem TZ (v:Int)(ps:List Int)(zs:List W)(hn:ps.length<=3)(hz:zs.length=ps.length)(hc:∀ (i:Nat) (k:Int) (z:W),ps[i]?=some k->zs[i]?=some z->Ca E1 16 [.d (bz k []),.d (.v (.int .i64 (ah .i64 (v+i))))] (.d z.d,none)) :
  Ca E1 16 [.d (bz 6 ps),.d (.v (.int .i64 v))] (.d (fH zs).d,none):=by
 obtain⟨px,L,hl,h1,h2,ho⟩:=XJ v 6 ps zs hn hz hc [FX 6 ps,bn (.d (.n 8)),bn (.d (.n 8))] rfl rfl rfl;have hds:(fH zs).d=.a [.v (.bool false),.s 1 [],.s 1 [],.v (.int .i64 0),.v (.bool false),.v (.int .u64 0),.s 6 [],.s 8 (W.ds zs)]:=rfl;have O9:1<L.length:=(bH h1)
 have hA:∃ st,Ex E1 f16.body.l (st0 [.d (bz 6 ps),.d (.v (.int .i64 v)),.u,.u,.u,.u,.u,.u,.u,.u,.u,.u,.u,.u,.u,.u] []) (.norm,st) /\
   st=(st0 [.u,.d (.v (.int .i64 v)),.r (.loc 0) 0,.r (.loc 1) 0,.u,.u,.u,.u,.u,.u,.u,.u,.u,.u,.u,.u] [FX 6 ps,bn (.d (.n 8))]):=by
  refine⟨_,Ex.of (n:=60) ?_,rfl⟩;unfold bz FX bn;generalize LK .i64 ps=l1 at*;simp -implicitDefEqProofs[f16]
 obtain⟨_,hA,rfl⟩:=hA;have hB:Ex E1 f16.body.r.l (st0 [.u,.d (.v (.int .i64 v)),.r (.loc 0) 0,.r (.loc 1) 0,.u,.u,.u,.u,.u,.u,.u,.u,.u,.u,.u,.u] [FX 6 ps,bn (.d (.n 8))])
   (.norm,(st0 [.u,.d (.v (.int .i64 v)),.r (.loc 0) 0,.r (.loc 1) 0,.u,.u,.u,.u,.u,.u,.u,.u,.u,.d (.v (.bool false)),.u,.u] [FX 6 ps,bn (.d (.n 8))])):=by
  refine Ex.of (n:=100) ?_;unfold FX bn;generalize LK .i64 ps=l1 at*;simp -implicitDefEqProofs[f16]
 have hC:Ex E1 f16.body.r.r.l (st0 [.u,.d (.v (.int .i64 v)),.r (.loc 0) 0,.r (.loc 1) 0,.u,.u,.u,.u,.u,.u,.u,.u,.u,.d (.v (.bool false)),.u,.u] [FX 6 ps,bn (.d (.n 8))])
   (.norm,(st0 [.u,.d (.v (.int .i64 v)),.r (.loc 0) 0,.r (.loc 1) 0,.u,.r (.loc 2) 0,.u,.u,.u,.u,.u,.u,.u,.u,.u,.u] [FX 6 ps,bn (.d (.n 8)),bn (.d (.n 8))])):=by
  refine Ex.of (n:=60) ?_;unfold FX bn;generalize LK .i64 ps=l1 at*;simp -implicitDefEqProofs[f16]
 have hC2:Ex E1 f16.body.r.r.r.l.l (st0 [.u,.d (.v (.int .i64 v)),.r (.loc 0) 0,.r (.loc 1) 0,.u,.r (.loc 2) 0,.u,.u,.u,.u,.u,.u,.u,.u,.u,.u] [FX 6 ps,bn (.d (.n 8)),bn (.d (.n 8))])
   (.norm,Ph v 0 .u [FX 6 ps,bn (.d (.n 8)),bn (.d (.n 8))]):=by
  refine Ex.of (n:=60) ?_;unfold Ph FX bn;generalize LK .i64 ps=l1 at*;simp -implicitDefEqProofs[f16]
 have hD:Ex E1 f16.body.r.r.r.r (Ph v ps.length (.d (.v (.bool false))) L)
   (.ret,(st0 [.u,.u,.u,.r (.loc 1) 0,.u,.u,.u,.u,.u,.u,.u,.u,.u,.u,.u,.u] (L.set 1 (bn px)))):=by
  refine Ex.of (n:=60) ?_;unfold Ph bn at*;have i1:=idx h1;have i2:=idx h2;rcases ho with ⟨rfl,_⟩|⟨j,az,rfl,_⟩
  ·simp -implicitDefEqProofs[f16,h1,h2,i1,i2,O9]
  ·simp -implicitDefEqProofs[f16,h1,h2,i1,i2,O9]
 refine Ca.body (o:=.ret) (st1:=(st0 [.u,.u,.u,.r (.loc 1) 0,.u,.u,.u,.u,.u,.u,.u,.u,.u,.u,.u,.u] (L.set 1 (bn px)))) rfl (k16:E1.fn _=_) rfl ?_ (by intro id h;cases h) ?_
 ·show Ex E1 (.seq f16.body.l (.seq f16.body.r.l (.seq f16.body.r.r.l (.seq (.seq f16.body.r.r.r.l.l (.block 1 (.loop mdL))) f16.body.r.r.r.r)))) _ _;exact hA.seq (hB.seq (hC.seq ((hC2.seq hl.block).seq hD)))
 ·rw[hds];unfold bn at*;have s1:∀ o,(L.set 1 o)[1]?=some o:=fun o=>List.getElem?_set_self O9
  rcases ho with ⟨rfl,e⟩|⟨j,az,rfl,hj⟩
  ·rw[e];simp -implicitDefEqProofs[f16,s1]
  ·have hj1:j≠1:=fun h=>by
    subst h;rw[h1]at hj;cases hj
   have sj:∀ o,(L.set 1 o)[j]?=some (.row az 8 (W.ds zs)):=fun o=>by rw[List.getElem?_set_ne (fun h=>hj1 h.symm)];exact hj
   have ev:ae.view az 8 0 (W.ds zs).length (.row az 8 (W.ds zs))=some (W.ds zs):=by simp[ae.view]
   generalize W.ds zs=es at*;simp -implicitDefEqProofs[f16,s1,sj,ev]
end Fi.S
namespace Fi.S
open Go Fi
set_option maxHeartbeats 8000000
set_option maxRecDepth 4000
def gH (S M:Nat)(ps:List Int)(xs:List Sv):Prop:=xs.length=ps.length/\∀ (i:Nat) (k:Int) (x:Sv),ps[i]?=some k->xs[i]?=some x->x.of k S M
theorem Nj {S M:Nat}:∀ {ps:List Int} {xs:List Sv},gH S M ps xs->tF ps (xs.map Sv.w)=true
 | [],[],_=>rfl
 | [],_::_,h=>by simp[gH]at h
 | _::_,[],h=>by simp[gH]at h
 | k::ps,x::xs,h=>by
  simp only[List.map_cons,tF,Bool.and_eq_true];exact⟨TQ (h.2 0 k x rfl rfl),Nj ⟨by simpa using h.1,fun i k' x' hk hx=>h.2 (i+1) k' x' (by simpa using hk) (by simpa using hx)⟩⟩
theorem BC {S M:Nat}{ps:List Int}(hv:aI 6 ps=true){xs:List Sv}(h:gH S M ps xs):cz 6 ps (fH (xs.map Sv.w))=true:=by
 unfold cz;have h1:(fH (xs.map Sv.w)).ps=xs.map Sv.w:=rfl;have h2:(fH (xs.map Sv.w)).bare=true:=rfl;rw[hv,h1,h2,Nj h];simp[h.1]
theorem Nk {S M:Nat}(hS:S<=1000){ps:List Int}(hps:ps.length<=3){xs:List Sv}(h:gH S M ps xs):(fH (xs.map Sv.w)).OK:=by
 have hl:bT []:=fun _ h=>(by cases h)
 refine .mk hl hl (by simp) (by simp) ⟨fun _ h=>(by cases h),by simp⟩ (by have:=h.1;simp;omega) (fun w hw => ?_);obtain⟨x,hx,rfl⟩:=List.mem_map.1 hw;obtain⟨i,hi,hxi⟩:=List.mem_iff_getElem.1 hx;have h1:xs[i]?=some x:=by rw[List.getElem?_eq_getElem hi,hxi]
 have h2:i<ps.length:=by rw[<-h.1];exact hi
 exact TR (h.2 i _ x (List.getElem?_eq_getElem h2) h1) hS
noncomputable def bL (ps:List Int) (xs ys:List Sv):List Sv:=(ps.zip (xs.zip ys)).map fun p=>dz p.1 p.2.1 p.2.2
theorem gu {ps:List Int}{xs ys:List Sv}{i:Nat}{z:Sv}(h:(bL ps xs ys)[i]?=some z):∃ k x y,ps[i]?=some k/\xs[i]?=some x/\ys[i]?=some y/\z=dz k x y:=by
 unfold bL at h;rw[List.getElem?_map,Option.map_eq_some_iff]at h;obtain⟨⟨k,x,y⟩,h1,rfl⟩:=h;rw[List.getElem?_zip_eq_some]at h1;have h2:=h1.2;rw[List.getElem?_zip_eq_some]at h2;exact⟨k,x,y,h1.1,h2.1,h2.2,rfl⟩
theorem Lf {xs:List Sv}{i:Nat}{w:W}(h:(xs.map Sv.w)[i]?=some w):∃ x,xs[i]?=some x/\w=x.w:=by
 rw[List.getElem?_map,Option.map_eq_some_iff]at h;obtain⟨x,h1,rfl⟩:=h;exact⟨x,h1,rfl⟩
theorem Lg {S M:Nat}(hS:S<=1000)(hM:(M+M)*(S+1)<=50000){ps:List Int}(hv:aI 6 ps=true)(v w:W){xs ys:List Sv}(hx:gH S M ps xs)(hy:gH S M ps ys)
  (h1:Ca E1 41 [.d (bz 6 ps),.d v.d] (.d (fH (xs.map Sv.w)).d,none)) (h2:Ca E1 41 [.d (bz 6 ps),.d w.d] (.d (fH (ys.map Sv.w)).d,none)) :
  Ca E1 14 [.d (bz 6 ps),.d v.d,.d w.d] (.d (fH ((bL ps xs ys).map Sv.w)).d,none):=by
 obtain⟨_,_,hs⟩:=Zg hv;refine TM hv v w _ _ _ (by simp[hx.1]) (by simp[hy.1]) (by simp[bL,hx.1,hy.1]) h1 h2 (fun i k x y z hk hxi hyi hzi => ?_);obtain⟨x',g1,rfl⟩:=Lf hxi;obtain⟨y',g2,rfl⟩:=Lf hyi;obtain⟨z',g3,rfl⟩:=Lf hzi;obtain⟨k',x'',y'',f1,f2,f3,rfl⟩:=gu g3;rw[hk]at f1;rw[g1]at f2;rw[g2]at f3;cases f1;cases f2;cases f3;exact II (hs k (List.mem_of_getElem? hk)) hS hM (hx.2 i k _ hk g1) (hy.2 i k _ hk g2)
end Fi.S
