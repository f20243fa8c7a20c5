import Derived.Test.YtbbogkfadofneaaGreatDoorPZeroB
import Derived.Test.YtbbogkfadofneaaGreatDoorPZeroC
import Derived.Test.YtbbogkfadofneaaGreatDoorPZeroD
import Derived.Test.YtbbogkfadofneaaGreatDoorCM
set_option linter.unusedVariables false
set_option linter.unusedSimpArgs false
noncomputable section
namespace Fi.S
open Go Fi
set_option maxHeartbeats 8000000
set_option maxRecDepth 10000
theorem ah1:qD 1=ach:=by
 have h1:qs 1=false:=cK;have h2:qn 1=[1]:=by
  show enc 1=[1]
  exact jw ae ae
 have h3:qd 1=[]:=if_pos rfl;simp[qD,raw,h1,h2,h3,LD,LL,ach]
theorem Qj:oF [((0,0,0),0+1)]=Jn:=by
 have h1:qs 1=false:=cK;have h2:qn 1=[1]:=by
  show enc 1=[1]
  exact jw ae ae
 have h3:qd 1=[]:=if_pos rfl;have h0:(0:Rat)+1=1:=Rat.zero_add 1;rw[h0];simp[oF,eG,qC,Aa,h1,h2,h3,LD,LL,Jn]
theorem Qk:∃ K,E6.Has E1 K 153 Y6:=by
 have hz:qz 1<=50000:=by
  have h:qz 1=max (sz 1) (sz 1):=rfl;rw[h,Bj];decide
 obtain⟨K,hK⟩:=I8 1 hz;refine⟨K,rfl,rfl,rfl,rfl,fun g hg => ?_,fun g q hq=>(by cases hq),fun ds v hv n hn => ?_⟩
 ·show(bif Nat.beq g 153 then some Y6 else uA g)=uA g;have:Nat.beq g 153=false:=by
   cases hb:Nat.beq g 153 with
   | false=>rfl
   | true=>exact absurd (Qg2 hb) hg
  rw[this];rfl
 ·unfold Y6 at hv;split at hv
  ·split at hv
   ·rename_i d hs;cases hv;rw[jG hs,<-ah1,<-Qj];exact hK n hn
   ·cases hv
  ·cases hv
theorem UZ (k:Int)(ps:List Int)(h:aK k ps=true):jh k ps=true:=by
 have five:∀ {a:Int},single a=true->a ∈ [1,2,3,4,5]:=by
  intro a ha;simp only[single,Qb1,decide_eq_true_eq]at ha;simp only[Qi2,Xp2,or_false];omega
 have main:∀ {f:Int->Bool} {x:Int},([1,2,3,4,5].all f)=true->x ∈ [1,2,3,4,5]->f x=true:=by
  intro f x h1 h2;exact Qh2.1 h1 _ h2
 unfold aK at h
 by_cases hk:k=6
 ·subst hk;rw[if_neg aA]at h;simp only[Qb1,decide_eq_true_eq,Qh2]at h;obtain⟨⟨h2,h3⟩,hs⟩:=h
  match ps,h2,h3,hs with
  | [a,b],_,_,hs =>
   have ha:=five (hs a aA);have hb:=five (hs b aA);simp only[Qi2,Xp2,or_false]at ha;rcases ha with rfl|rfl|rfl|rfl|rfl
   ·exact main (f:=fun k=>jh 6 [1,k]) (x:=b) aft hb
   ·exact main (f:=fun k=>jh 6 [2,k]) (x:=b) afu hb
   ·exact main (f:=fun k=>jh 6 [3,k]) (x:=b) afv hb
   ·exact main (f:=fun k=>jh 6 [4,k]) (x:=b) afw hb
   ·exact main (f:=fun k=>jh 6 [5,k]) (x:=b) afx hb
  | [a,b,c],_,_,hs =>
   have ha:=five (hs a aA);have hb:=five (hs b aA);have hc:=five (hs c aA);simp only[Qi2,Xp2,or_false]at ha hb;rcases ha with rfl|rfl|rfl|rfl|rfl<;>rcases hb with rfl|rfl|rfl|rfl|rfl
   ·exact main (f:=fun k=>jh 6 [1,1,k]) (x:=c) aci hc
   ·exact main (f:=fun k=>jh 6 [1,2,k]) (x:=c) acj hc
   ·exact main (f:=fun k=>jh 6 [1,3,k]) (x:=c) ack hc
   ·exact main (f:=fun k=>jh 6 [1,4,k]) (x:=c) acm hc
   ·exact main (f:=fun k=>jh 6 [1,5,k]) (x:=c) acn hc
   ·exact main (f:=fun k=>jh 6 [2,1,k]) (x:=c) aco hc
   ·exact main (f:=fun k=>jh 6 [2,2,k]) (x:=c) acp hc
   ·exact main (f:=fun k=>jh 6 [2,3,k]) (x:=c) acr hc
   ·exact main (f:=fun k=>jh 6 [2,4,k]) (x:=c) acs hc
   ·exact main (f:=fun k=>jh 6 [2,5,k]) (x:=c) acu hc
   ·exact main (f:=fun k=>jh 6 [3,1,k]) (x:=c) acv hc
   ·exact main (f:=fun k=>jh 6 [3,2,k]) (x:=c) acw hc
   ·exact main (f:=fun k=>jh 6 [3,3,k]) (x:=c) acx hc
   ·exact main (f:=fun k=>jh 6 [3,4,k]) (x:=c) acy hc
   ·exact main (f:=fun k=>jh 6 [3,5,k]) (x:=c) acz hc
   ·exact main (f:=fun k=>jh 6 [4,1,k]) (x:=c) acA hc
   ·exact main (f:=fun k=>jh 6 [4,2,k]) (x:=c) acB hc
   ·exact main (f:=fun k=>jh 6 [4,3,k]) (x:=c) acC hc
   ·exact main (f:=fun k=>jh 6 [4,4,k]) (x:=c) acD hc
   ·exact main (f:=fun k=>jh 6 [4,5,k]) (x:=c) acE hc
   ·exact main (f:=fun k=>jh 6 [5,1,k]) (x:=c) acF hc
   ·exact main (f:=fun k=>jh 6 [5,2,k]) (x:=c) acG hc
   ·exact main (f:=fun k=>jh 6 [5,3,k]) (x:=c) acH hc
   ·exact main (f:=fun k=>jh 6 [5,4,k]) (x:=c) acI hc
   ·exact main (f:=fun k=>jh 6 [5,5,k]) (x:=c) acJ hc
 ·rw[if_pos hk]at h;simp only[Qb1,decide_eq_true_eq]at h;obtain⟨h1,rfl⟩:=h;exact main (f:=fun k=>jh k []) (x:=k) ah2 (five h1)
def Jo (k:Int)(ps:List Int):W:=if k=6 then fV (ps.map fun k=>(dH k).w) else(dH k).w
theorem Oh (k:Int):(dH k).w.d=Mf k:=by
 have h1:qs 0=false:=cK;have h2:qn 0=[]:=dD;have h3:qd 0=[]:=if_pos rfl;unfold dH Mf
 by_cases a:k=2
 ·subst a;rfl
 ·have e:(k==2)=false:=by simpa using a
  rw[if_neg a,e]
  by_cases b:k=4
  ·rw[if_pos b];rfl
  ·rw[if_neg b]
   by_cases c:k=5
   ·rw[if_pos c];rfl
   ·rw[if_neg c];simp only[Sv.w,W.d,W.ds,h1,h2,h3,LD,LL,PD,Qc1]
theorem Y7 (k:Int)(ps:List Int):(Jo k ps).d=U0 k ps:=by
 unfold Jo U0
 by_cases h:k=6
 ·rw[if_pos h,if_pos h];have:W.ds (ps.map fun k=>(dH k).w)=ps.map Mf:=by
   rw[W.h_,Xh0];exact Xq1 fun x _=>Oh x
  show D.a [vB false,.s 1 [],.s 1 [],vI 0,vB false,.v (.int .u64 0),.s 6 [],.s 8 (W.ds (ps.map fun k=>(dH k).w))]=_;rw[this]
 ·rw[if_neg h,if_neg h,Oh]
theorem U1 {k:Int}{ps:List Int}(h:aK k ps=true):Ca E1 26 [.d (aT k ps)] (.d (Jo k ps).d,none):=by
 have h1:=UZ k ps h;unfold jh at h1;rw[Qb1]at h1;have h2:=h1.1;split at h2
 ·rename_i z hz;rw[Y7,<-jG h2];exact Ca.ib (Ca.of hz)
 ·cases h2
theorem Y8 {k:Int}{ps:List Int}(h:aK k ps=true):Ca E1 20 [.d (aT k ps)] (.d (Oi k ps),none):=by
 obtain⟨K,hK⟩:=Qk;have h1:=UZ k ps h;unfold jh at h1;rw[Qb1]at h1;obtain⟨_,h3⟩:=h1;split at h3
 ·rename_i z hz;rw[<-jG h3];exact Ca.of (Ql hK hz)
 ·cases h3
noncomputable def zC (v:Int):List a_ :=
 if (v.tdiv 5) % 2=1 then gz (bZ (q8 (v % 5-2) 3)) (iJ [(ic ((v.tdiv 10) % 3).toNat,1)] (bZ (uo v))) else bZ (q8 (v % 5-2) 3)
noncomputable def Cf (k v:Int):Sv :=
 if k=1 then .q (uo v) else if k=2 then(if v % 11=10 then .c true 0 else .c false (v % 11)) else if k=3 then .q (q8 (v % 7) 6) else if k=4 then .s (v % 16) else .p (zC v)
theorem Mg {a b:Int}(ha:a.natAbs<4294967296)(hb:b.natAbs<4294967296)(hb0:b≠0):qz (q8 a b)<=1:=by
 unfold q8;refine Qc2 (Bp ae) ?_;have h1:sz a.natAbs<=1:=uB ae;have h2:sz b.natAbs<=1:=uB ae;exact Nat.max_le.2 ⟨h1,h2⟩
theorem AB (v:Int):qz (uo v)<=1:=by
 have h1:=Qo1 v (show(13:Int)≠0 by omega);have h2:=Ql2 v (show(0:Int)<13 by omega);have h3:=Qo1 (v.tdiv 13) (show(3:Int)≠0 by omega);have h4:=Ql2 (v.tdiv 13) (show(0:Int)<3 by omega);exact Mg ae ae ae
theorem Cg (v:Int):qz (q8 (v % 5-2) 3)<=1:=by
 have h1:=Qo1 v (show(5:Int)≠0 by omega);have h2:=Ql2 v (show(0:Int)<5 by omega);exact Mg ae ae ae
theorem Ch (i:Nat):PV 1 [(ic i,1)]:=by
 refine⟨Qq1.2 ⟨fun _ h=>(by cases h),List.Pairwise.nil⟩,fun p hp => ?_,fun p hp => ?_,fun p hp => ?_⟩<;>(rw[Qz0]at hp;subst hp)
 ·exact(by decide:(1:Rat)≠0)
 ·show bR (ic i)=true;unfold ic;split
  ·decide
  ·split<;>decide
 ·show qz 1<=1;have h:qz 1=max (sz 1) (sz 1):=rfl;rw[h,Bj];decide
theorem yC (x:Rat):(bZ x).length<=1:=by unfold bZ;split<;>simp
theorem U2 (v:Int):PV 9 (zC v)/\(zC v).length<=2:=by
 have hc:=j_ (Cg v);have hn:=j_ (AB v);have hm:=iA (a:=[(ic ((v.tdiv 10) % 3).toNat,1)]) ae (Ch _) hn;have hl:=zy [(ic ((v.tdiv 10) % 3).toNat,1)] (bZ (uo v));have l1:=yC (uo v);have l2:=yC (q8 (v % 5-2) 3);simp only[Qg0,Qr1]at hm hl;unfold zC;split
 ·refine⟨(gP (S:=4) (T:=4) ae ae (hc.mono ae) (hm.mono ae)),?_⟩;have:=zx (bZ (q8 (v % 5-2) 3)) (iJ [(ic ((v.tdiv 10) % 3).toNat,1)] (bZ (uo v)));omega
 ·exact⟨hc.mono ae,ae⟩
theorem Oj {k:Int}(hk:single k=true)(v:Int):(Cf k v).of k 9 2:=by
 unfold Cf;rcases aO hk with rfl|rfl|rfl|rfl|rfl
 ·rw[if_pos rfl];exact⟨.inl rfl,Qc2 (AB v) ae⟩
 ·rw[if_neg cK,if_pos rfl];have h1:=Qo1 v (show(11:Int)≠0 by omega);have h2:=Ql2 v (show(0:Int)<11 by omega);split
  ·exact⟨rfl,cK,cK,fun _=>rfl⟩
  ·exact⟨rfl,h1,ae,fun h=>by cases h⟩
 ·rw[if_neg cK,if_neg cK,if_pos rfl];have h1:=Qo1 v (show(7:Int)≠0 by omega);have h2:=Ql2 v (show(0:Int)<7 by omega);have hs:qz (q8 (v % 7) 6)<=1:=Mg ae ae ae;refine⟨.inr ⟨rfl,?_⟩,ae⟩;have h3:v % 7=0\/v % 7=1\/v % 7=2\/v % 7=3\/v % 7=4\/v % 7=5\/v % 7=6:=ae;rcases h3 with h|h|h|h|h|h|h<;>rw[h]<;>decide +kernel
 ·rw[if_neg cK,if_neg cK,if_neg cK,if_pos rfl];have h1:=Qo1 v (show(16:Int)≠0 by omega);have h2:=Ql2 v (show(0:Int)<16 by omega);exact⟨rfl,h1,ae⟩
 ·rw[if_neg cK,if_neg cK,if_neg cK,if_neg cK];exact⟨rfl,U2 v⟩
theorem acK:cu E0 80 35 [.d (aT 2 [])] []=some (.d (Mf 2),none):=Y9 (by kernel_rfl)
theorem afy (v:Int)(hv:gy v):Ca E1 16 [.d (aT 1 []),dI v] (.d (Sv.q (uo v)).w.d,none):=by
 obtain⟨N,t⟩:=(Ca.ib (E8 v hv)).get;refine Ca.bP (n:=N+100) ?_;rw[av rfl (k16:E1.fn _=_) rfl];generalize uo v=x at*;simp only[Sv.w,W.d,W.ds,PD,aT,LK,qD,raw,LD,Qc1]at*;generalize qs x=s,LL (qn x)=ns,LL (qd x)=ds at*;simp[f16,t]
theorem afz (v:Int)(hv:gy v):Ca E1 16 [.d (aT 2 []),dI v] (.d (if v % 11=10 then Sv.c true 0 else .c false (v % 11)).w.d,none):=by
 obtain⟨N,hN,t,t2⟩:=((Ca.ib (jr v 11 hv ae ae)).j ((Ca.ib (Ca.of acK)).any)).at 0;refine Ca.bP (n:=N+100) ?_;rw[av rfl (k16:E1.fn _=_) rfl];generalize v % 11=j at*
 by_cases h:j=10
 ·subst h;rw[if_pos rfl];simp only[Sv.w,W.d,W.ds,PD,aT,LK,LD,LL,Qc1,Mf]at*;simp[f16,t,t2]
 ·have h':(j==10)=false:=by simpa using h
  rw[if_neg h];simp only[Sv.w,W.d,W.ds,PD,aT,LK,LD,LL,Qc1]at*;simp[f16,t,h,h']
theorem acM (v:Int)(hv:gy v):Ca E1 16 [.d (aT 3 []),dI v] (.d (Sv.q (q8 (v % 7) 6)).w.d,none):=by
 have h1:=Qo1 v (show(7:Int)≠0 by omega);have h2:=Ql2 v (show(0:Int)<7 by omega);obtain⟨N,hN,t1,t2⟩:=((Ca.ib (jr v 7 hv ae ae)).j ((Ca.ib (BB (v % 7) 6 ae cK cK)).any)).at 0;refine Ca.bP (n:=N+100) ?_;rw[av rfl (k16:E1.fn _=_) rfl];generalize q8 (v % 7) 6=x at*;generalize v % 7=j at*;simp only[Sv.w,W.d,W.ds,PD,aT,LK,qD,raw,LD,Qc1]at*;generalize qs x=s,LL (qn x)=ns,LL (qd x)=ds at*;simp[f16,t1,t2]
theorem afA (v:Int)(hv:gy v):Ca E1 16 [.d (aT 4 []),dI v] (.d (Sv.s (v % 16)).w.d,none):=by
 have h1:=Qo1 v (show(16:Int)≠0 by omega);have h2:=Ql2 v (show(0:Int)<16 by omega);obtain⟨N,t⟩:=(Ca.ib (jr v 16 hv ae ae)).get;have w:ai .u64 (v % 16)=v % 16:=wrap_u64 ae;refine Ca.bP (n:=N+100) ?_;rw[av rfl (k16:E1.fn _=_) rfl];generalize v % 16=j at*;simp only[Sv.w,W.d,W.ds,PD,aT,LK,LD,LL,Qc1]at*;simp[f16,t,w]
theorem U3 {v n:Int}(hv:gy v)(hn:2<=n):gy (v.tdiv n):=by
 have h:(v.tdiv n).natAbs=v.natAbs / n.natAbs:=Int.natAbs_tdiv v n;have h2:v.natAbs / n.natAbs<=v.natAbs / 2:=Nat.div_le_div_left ae ae;unfold gy at*;omega
theorem afB (v:Int)(hv:gy v):Ca E1 16 [.d (aT 5 []),dI v] (.d (Sv.p (zC v)).w.d,none):=by
 have h1:=Qo1 v (show(5:Int)≠0 by omega);have h2:=Ql2 v (show(0:Int)<5 by omega);have h3:=Qo1 (v.tdiv 10) (show(3:Int)≠0 by omega);have h4:=Ql2 (v.tdiv 10) (show(0:Int)<3 by omega);have r5:=U3 (n:=5) hv ae;have r10:=U3 (n:=10) hv ae;have w0:ai .i64 (v % 5-2)=v % 5-2:=wrap_i64 ae;have w1:ai .i64 (v.tdiv 5)=v.tdiv 5:=wrap_i64 r5;have w2:ai .i64 (v.tdiv 10)=v.tdiv 10:=wrap_i64 r10;obtain⟨N1,t1⟩:=(Ca.ib (jr v 5 hv ae ae)).any;obtain⟨N2,t2⟩:=(Ca.ib (BB (v % 5-2) 3 ae cK cK)).any;obtain⟨N3,t3⟩:=(E5 (q8 (v % 5-2) 3) (by have:=Cg v;omega)).any;obtain⟨N4,t4⟩:=(Ca.ib (jr (v.tdiv 5) 2 r5 ae ae)).any;obtain⟨N5,t5⟩:=(Ca.ib (jr (v.tdiv 10) 3 r10 ae ae)).any;have hi3:((v.tdiv 10) % 3).toNat<3:=ae;have p6:=Qa ((v.tdiv 10) % 3).toNat hi3;have e6:((((v.tdiv 10) % 3).toNat:Nat):Int)=(v.tdiv 10) % 3:=ae;rw[e6]at p6;obtain⟨N6,t6⟩:=p6.any;obtain⟨N7,t7⟩:=(Ca.ib (E8 v hv)).any;obtain⟨N8,t8⟩:=(P_ (S:=1) ae ae (Ch ((v.tdiv 10) % 3).toNat) (uo v) (AB v) aA).any;have hm:=iA (a:=[(ic ((v.tdiv 10) % 3).toNat,1)]) ae (Ch _) (j_ (AB v));simp only[Qg0,Qr1]at hm;obtain⟨N9,t9⟩:=(Je (S:=4) ae ae ((j_ (Cg v)).mono ae) (hm.mono ae)).any;obtain⟨N,hN⟩:∃ N,N=N1+N2+N3+N4+N5+N6+N7+N8+N9:=⟨_,rfl⟩
 replace t1:=t1 N ae;replace t2:=t2 N ae;replace t3:=t3 N ae;replace t4:=t4 N ae;replace t5:=t5 N ae;replace t6:=t6 N ae;replace t7:=t7 N ae;replace t8:=t8 N ae;replace t9:=t9 N ae;refine Ca.bP (n:=N+150) ?_;rw[av rfl (k16:E1.fn _=_) rfl];rw[UH];unfold zC;clear hm hN p6 e6 hi3 h1 h2 h3 h4 r5 r10;generalize uo v=x,q8 (v % 5-2) 3=y,((v.tdiv 10) % 3).toNat=pi at*;generalize (v.tdiv 10) % 3=j3,(v.tdiv 5) % 2=j2 at*
 by_cases h:j2=1
 ·subst h;rw[if_pos rfl];generalize gz (bZ y) (iJ [(ic pi,1)] (bZ x))=R at*;generalize iJ [(ic pi,1)] (bZ x)=P2,([(ic pi,1)]:List a_)=P1,bZ y=P0 at*;unfold aZ at*;generalize (R.map fun p=>qC p.1 p.2)=z1,(P2.map fun p=>qC p.1 p.2)=z2,(P1.map fun p=>qC p.1 p.2)=z3,(P0.map fun p=>qC p.1 p.2)=z4 at*;simp only[aT,LK,qD,raw,LD,Qc1]at*;generalize qs x=s,LL (qn x)=ns,LL (qd x)=ds,qs y=s',LL (qn y)=ns',LL (qd y)=ds' at*;simp[f16,t1,t2,t3,t4,t5,t6,t7,t8,t9,w0,w1,w2]
 ·have h':(j2==1)=false:=by simpa using h
  rw[if_neg h];unfold aZ at*;generalize bZ y=P0 at*;generalize (P0.map fun p=>qC p.1 p.2)=z4 at*;simp only[aT,LK,qD,raw,LD,Qc1]at*;generalize qs y=s',LL (qn y)=ns',LL (qd y)=ds' at*;simp[f16,t1,t2,t3,t4,w0,w1,h,h']
def mdL:aF:=f16.body.r.r.r.l.r.bl.lp
def Jp (kk:Int)(ps:List Int):ah:=.box [dI kk,.d (.s 1 (LK .i64 ps))]
def Qm (v:Int)(i:Nat)(t:FV)(L:List ah):St :=
 (st0 [.u,dI v,rL 0,rL 1,.u,rL 2,dI i,.u,.u,.u,.u,.u,.u,.u,.u,t] L)
theorem U4 (v:Int)(kk:Int)(ps:List Int)(i:Nat)(k:Int)(L:List ah)(px:FV)(zs:List D)(z:W)(hk:ps[i]?=some k)(hn:ps.length<=3)(h0:L[0]?=some (Jp kk ps))(h1:L[1]?=some (bT (.d (.n 8))))(h2:L[2]?=some (bT px))(ho:jM px L zs)(hz:zs.length<=3)
  (hc:Ca E1 16 [.d (aT k []),dI (ai .i64 (v+i))] (.d z.d,none)) :
  ∃ tN L',Ex E1 mdL (Qm v i .u L) (.norm,Qm v (i+1) .u L')/\L'[0]?=some (Jp kk ps)/\L'[1]?=some (bT (.d (.n 8)))/\L'[2]?=some (bT tN)/\jM tN L' (zs++[z.d]):=by
 obtain⟨N,t⟩:=hc.get;have h0l:0<L.length:=(bq h0)
 have Qd:1<L.length:=(bq h1)
 have E_:2<L.length:=(bq h2)
 have hil:i<ps.length:=(bq hk)
 have n1:(LK .i64 ps).length=ps.length:=by simp[LK]
 have e1:(LK .i64 ps)[i]?=some (vI k):=by simp[LK,hk]
 have aR:ai .i64 ((i:Int)+1)=(i:Int)+1:=wrap_i64 ae;have hk1:((i+1:Nat):Int)=(i:Int)+1:=ae;have hk0:(0:Int)<=(i:Int):=ae;have hkc:(i:Int)<(ps.length:Int):=ae;obtain⟨UQ,Ed,Ee,zc,zb,zu,zp,E9,ez⟩:=z.aN;rw[ez]at t ⊢;unfold wD aT at*;have e0:LK .i64 []=[]:=rfl;rw[e0]at t;rcases ho with ⟨rfl,rfl⟩|⟨j,ak,rfl,hj⟩
 ·have g2:∀ X,(L++X)[2]?=some (bT (.d (.n 8))):=fun X=>by rw[Qa0 E_];exact h2
  refine⟨.ls (.loc L.length) 0 8 0 1,(L.set 2 (bT (.ls (.loc L.length) 0 8 0 1)))++[.row 0 8 [(.a [D.v (.bool UQ),.s 1 Ed,.s 1 Ee,vI zc,vB zb,.v (.int .u64 zu),.s 6 zp,.s 8 E9])]],Ex.of (n:=N+100) ?_,?_,?_,?_,?_⟩
  ·unfold Qm;rw[hk1];clear h1;unfold bT Jp at*;generalize LK .i64 ps=l1 at*;have i1:=idx e1;have i2:=idx h2;have i0:=idx h0;simp[mdL,f16,aR,hk0,hkc,hil,n1,e1,i1,i0,i2,h0,h2,h0l,E_,t,most,g2]
  ·rw[Qa0 (by simpa using h0l),Qd0 ae];exact h0
  ·rw[Qa0 (by simpa using Qd),Qd0 ae];exact h1
  ·rw[Qa0 (by simpa using E_)];exact Qf0 E_
  ·exact .inr ⟨L.length,0,rfl,aA⟩
 ·have hjl:j<L.length:=(bq hj)
  have hj2:j≠2:=fun h=>by
   subst h;rw[h2]at hj;cases hj
  have hj1:j≠1:=fun h=>by
   subst h;rw[h1]at hj;cases hj
  have hj0:j≠0:=fun h=>by
   subst h;rw[h0]at hj;cases hj
  have s2:∀ r,(L.set j r)[2]?=some (bT (.ls (.loc j) ak 8 0 zs.length)):=fun r=>by rw[Qd0 hj2];exact h2
  have m1:(zs.length+1)*128<=1099511627776:=ae;have m2:zs.length+1<=1099511627776:=ae;refine⟨.ls (.loc j) (ak+1) 8 0 (zs.length+1),((L.set j (.row (ak+1) 8 (zs++[(.a [D.v (.bool UQ),.s 1 Ed,.s 1 Ee,vI zc,vB zb,.v (.int .u64 zu),.s 6 zp,.s 8 E9])]))).set 2 (bT (.ls (.loc j) (ak+1) 8 0 (zs.length+1)))),Ex.of (n:=N+100) ?_,?_,?_,?_,?_⟩
  ·unfold Qm;rw[hk1];clear h1;unfold bT Jp at*;have i1:=idx e1;have i2:=idx h2;have i0:=idx h0;have i3:=idx hj;have i4:∀ r (h:2<(L.set j r).length),(L.set j r)[2]=_:=fun r h=>idx (s2 r) h
   simp[mdL,f16,aR,hk0,hkc,hil,n1,e1,i1,i0,i2,h0,h2,h0l,E_,t,most,i3,i4,hj,hjl,s2,m1,m2]
  ·rw[Qd0 ae,Qd0 hj0];exact h0
  ·rw[Qd0 ae,Qd0 hj1];exact h1
  ·exact Qf0 (by simpa using E_)
  ·refine .inr ⟨j,ak+1,aA,?_⟩;rw[Qd0 (fun h=>hj2 h.symm)];exact Qf0 hjl
theorem Y_ (v:Int)(kk:Int)(ps:List Int)(zs:List W)(hn:ps.length<=3)(hz:zs.length=ps.length)(hc:∀ (i:Nat) (k:Int) (z:W),ps[i]?=some k->zs[i]?=some z->Ca E1 16 [.d (aT k []),dI (ai .i64 (v+i))] (.d z.d,none))
  (L:List ah) (h0:L[0]?=some (Jp kk ps)) (h1:L[1]?=some (bT (.d (.n 8)))) (h2:L[2]?=some (bT (.d (.n 8)))) :
  ∃ tN L',Ex E1 (.loop mdL) (Qm v 0 .u L) (.exit 1,Qm v ps.length (dB false) L')/\L'[1]?=some (bT (.d (.n 8)))/\L'[2]?=some (bT tN)/\jM tN L' (W.ds zs):=by
 have n1:(LK .i64 ps).length=ps.length:=by simp[LK]
 obtain⟨r,hx,tN,L',rfl,h5,h3,h4⟩:=Ex.inv (E:=E1) (b:=mdL) (α:=Nat × FV × List ah) (S:=fun a=>Qm v a.1 .u a.2.2) (fun a=>ps.length-a.1)
  (fun a=>a.1<=ps.length/\a.2.2[0]?=some (Jp kk ps)/\a.2.2[1]?=some (bT (.d (.n 8)))/\a.2.2[2]?=some (bT a.2.1)/\jM a.2.1 a.2.2 (W.ds (zs.take a.1)))
  (fun r=>∃ tN L',r=(.exit 1,Qm v ps.length (dB false) L')/\L'[1]?=some (bT (.d (.n 8)))/\L'[2]?=some (bT tN)/\jM tN L' (W.ds zs)) (by
   rintro⟨i,px,L⟩ ⟨q1,qa,q0,q2,q3⟩;simp only at q1 qa q0 q2 q3
   by_cases hi:i<ps.length
   ·have hk:ps[i]?=some ps[i]:=Qa1 hi;have hzi:zs[i]?=some (zs[i]'(by omega)):=Qa1 ae;have hlen:(W.ds (zs.take i)).length<=3:=by simp[W.h_];omega
    obtain⟨tN,L',g1,ga,g0,g2,g3⟩:=U4 v kk ps i ps[i] L px _ _ hk hn qa q0 q2 q3 hlen (hc i _ _ hk hzi);refine .inl ⟨(i+1,tN,L'),g1,by show ps.length-(i+1)<ps.length-i;omega,by show i+1<=_;omega,ga,g0,g2,?_⟩;show jM tN L' (W.ds (zs.take (i+1)));rw[Q82,hzi];have e:W.ds (zs.take i++[zs[i]'(by omega)])=W.ds (zs.take i)++[(zs[i]'(by omega)).d]:=by simp only[W.h_,Qp2,Qe2,Qc1]
    show jM tN L' (W.ds (zs.take i++[zs[i]'(by omega)]));rw[e];exact g3
   ·obtain rfl:i=ps.length:=ae;rw[<-hz,Qn0]at q3;refine .inr ⟨_,Ex.of (n:=60) ?_,?_,px,L,rfl,q0,q2,q3⟩
    ·unfold Qm;unfold Jp at qa;rw[<-n1];have i0:=idx qa;have h0l:0<L.length:=(bq qa)
     simp[mdL,f16,qa,i0,h0l]
    ·simp) (0,.d (.n 8),L) ⟨Qy1 _,h0,h1,h2,.inl ⟨rfl,rfl⟩⟩
 exact⟨tN,L',hx,h5,h3,h4⟩
theorem U5 (v:Int)(ps:List Int)(zs:List W)(hn:ps.length<=3)(hz:zs.length=ps.length)(hc:∀ (i:Nat) (k:Int) (z:W),ps[i]?=some k->zs[i]?=some z->Ca E1 16 [.d (aT k []),dI (ai .i64 (v+i))] (.d z.d,none)) :
  Ca E1 16 [.d (aT 6 ps),dI v] (.d (fV zs).d,none):=by
 obtain⟨px,L,hl,h1,h2,ho⟩:=Y_ v 6 ps zs hn hz hc [Jp 6 ps,bT (.d (.n 8)),bT (.d (.n 8))] rfl rfl rfl;have hds:(fV zs).d=.a [vB false,.s 1 [],.s 1 [],vI 0,vB false,.v (.int .u64 0),.s 6 [],.s 8 (W.ds zs)]:=rfl;have Qd:1<L.length:=(bq h1)
 have hA:∃ st,Ex E1 f16.body.l (st0 (.d (aT 6 ps)::dI v::O3) []) (.norm,st) /\
   st=(st0 (.u::dI v::rL 0::rL 1::D5) [Jp 6 ps,bT (.d (.n 8))]):=by
  refine⟨_,Ex.of (n:=60) ?_,rfl⟩;unfold aT Jp bT;generalize LK .i64 ps=l1 at*;simp[f16]
 obtain⟨_,hA,rfl⟩:=hA;have hB:Ex E1 f16.body.r.l (st0 (.u::dI v::rL 0::rL 1::D5) [Jp 6 ps,bT (.d (.n 8))])
   (.norm,(st0 [.u,dI v,rL 0,rL 1,.u,.u,.u,.u,.u,.u,.u,.u,.u,dB false,.u,.u] [Jp 6 ps,bT (.d (.n 8))])):=by
  refine Ex.of (n:=100) ?_;unfold Jp bT;generalize LK .i64 ps=l1 at*;simp[f16]
 have hC := nx hB f16.body.r.r.l (st0 (.u::dI v::rL 0::rL 1::.u::rL 2::qP) [Jp 6 ps,bT (.d (.n 8)),bT (.d (.n 8))]) (by
  apply e6;unfold Jp bT;generalize LK .i64 ps=l1 at*;simp[f16])
 have hC2 := nx hC f16.body.r.r.r.l.l (Qm v 0 .u [Jp 6 ps,bT (.d (.n 8)),bT (.d (.n 8))]) (by
  apply e6;unfold Qm Jp bT;simp[f16])
 have hD:Ex E1 f16.body.r.r.r.r (Qm v ps.length (dB false) L)
   (.ret,(st0 (.u::.u::.u::rL 1::D5) (L.set 1 (bT px)))):=by
  apply e6;unfold Qm bT at*;have i1:=idx h1;have i2:=idx h2;rcases ho with ⟨rfl,_⟩|⟨j,ak,rfl,_⟩
  ·simp[f16,h1,h2,i1,i2,Qd]
  ·simp[f16,h1,h2,i1,i2,Qd]
 refine Ca.body (o:=.ret) (st1:=(st0 (.u::.u::.u::rL 1::D5) (L.set 1 (bT px)))) rfl (k16:E1.fn _=_) rfl ?_ (by intro id h;cases h) ?_
 ·show Ex E1 (.seq f16.body.l (.seq f16.body.r.l (.seq f16.body.r.r.l (.seq (.seq f16.body.r.r.r.l.l (.block 1 (.loop mdL))) f16.body.r.r.r.r)))) _ _;exact hA.seq (hB.seq (hC.seq ((hC2.seq hl.block).seq hD)))
 ·rw[hds];unfold bT at*;have s1:∀ o,(L.set 1 o)[1]?=some o:=fun o=>Qf0 Qd
  rcases ho with ⟨rfl,e⟩|⟨j,ak,rfl,hj⟩
  ·rw[e];simp[f16,s1]
  ·have hj1:j≠1:=fun h=>by
    subst h;rw[h1]at hj;cases hj
   have sj:∀ o,(L.set 1 o)[j]?=some (.row ak 8 (W.ds zs)):=fun o=>by rw[Qd0 (fun h=>hj1 h.symm)];exact hj
   have ev:ah.view ak 8 0 (W.ds zs).length (.row ak 8 (W.ds zs))=some (W.ds zs):=by simp[ah.view]
   generalize W.ds zs=es at*;simp[f16,s1,sj,ev]
set_option maxRecDepth 4000
def gY (S M:Nat)(ps:List Int)(xs:List Sv):Prop:=xs.length=ps.length/\∀ (i:Nat) (k:Int) (x:Sv),ps[i]?=some k->xs[i]?=some x->x.of k S M
theorem Ol {S M:Nat}:∀ {ps:List Int} {xs:List Sv},gY S M ps xs->um ps (xs.map Sv.w)=true
 | [],[],_=>rfl
 | [],_::_,h=>by simp[gY]at h
 | _::_,[],h=>by simp[gY]at h
 | k::ps,x::xs,h=>by
  simp only[Qe2,um,Qb1];exact⟨UX (h.2 0 k x rfl rfl),Ol ⟨by simpa using h.1,fun i k' x' hk hx=>h.2 (i+1) k' x' (by simpa using hk) (by simpa using hx)⟩⟩
theorem Ci {S M:Nat}{ps:List Int}(hv:aK 6 ps=true){xs:List Sv}(h:gY S M ps xs):cZ 6 ps (fV (xs.map Sv.w))=true:=by
 unfold cZ;have h1:(fV (xs.map Sv.w)).ps=xs.map Sv.w:=rfl;have h2:(fV (xs.map Sv.w)).bare=true:=rfl;rw[hv,h1,h2,Ol h];simp[h.1]
theorem Om {S M:Nat}(hS:S<=1000){ps:List Int}(hps:ps.length<=3){xs:List Sv}(h:gY S M ps xs):(fV (xs.map Sv.w)).OK:=by
 have hl:bY []:=fun _ h=>(by cases h)
 refine .mk hl hl aA aA ⟨fun _ h=>(by cases h),aA⟩ (by have:=h.1;simp;omega) (fun w hw => ?_);obtain⟨x,hx,rfl⟩:=Qi1.1 hw;obtain⟨i,hi,hxi⟩:=X12.1 hx;have h1:xs[i]?=some x:=by rw[Qa1 hi,hxi]
 have h2:i<ps.length:=by rw[<-h.1];exact hi
 exact UY (h.2 i _ x (Qa1 h2) h1) hS
noncomputable def bV (ps:List Int) (xs ys:List Sv):List Sv:=(ps.zip (xs.zip ys)).map fun p=>dF p.1 p.2.1 p.2.2
theorem gT {ps:List Int}{xs ys:List Sv}{i:Nat}{z:Sv}(h:(bV ps xs ys)[i]?=some z):∃ k x y,ps[i]?=some k/\xs[i]?=some x/\ys[i]?=some y/\z=dF k x y:=by
 unfold bV at h;rw[Qb2,Qf2]at h;obtain⟨⟨k,x,y⟩,h1,rfl⟩:=h;rw[Xs0]at h1;have h2:=h1.2;rw[Xs0]at h2;exact⟨k,x,y,h1.1,h2.1,h2.2,rfl⟩
theorem Mh {xs:List Sv}{i:Nat}{w:W}(h:(xs.map Sv.w)[i]?=some w):∃ x,xs[i]?=some x/\w=x.w:=by
 rw[Qb2,Qf2]at h;obtain⟨x,h1,rfl⟩:=h;exact⟨x,h1,rfl⟩
theorem Mi {S M:Nat}(hS:S<=1000)(hM:(M+M)*(S+1)<=50000){ps:List Int}(hv:aK 6 ps=true)(v w:W){xs ys:List Sv}(hx:gY S M ps xs)(hy:gY S M ps ys)
  (h1:Ca E1 41 [.d (aT 6 ps),.d v.d] (.d (fV (xs.map Sv.w)).d,none)) (h2:Ca E1 41 [.d (aT 6 ps),.d w.d] (.d (fV (ys.map Sv.w)).d,none)) :
  Ca E1 14 [.d (aT 6 ps),.d v.d,.d w.d] (.d (fV ((bV ps xs ys).map Sv.w)).d,none):=by
 obtain⟨_,_,hs⟩:=rg6 hv;refine UU hv v w _ _ _ (by simp[hx.1]) (by simp[hy.1]) (by simp[bV,hx.1,hy.1]) h1 h2 (fun i k x y z hk hxi hyi hzi => ?_);obtain⟨x',g1,rfl⟩:=Mh hxi;obtain⟨y',g2,rfl⟩:=Mh hyi;obtain⟨z',g3,rfl⟩:=Mh hzi;obtain⟨k',x'',y'',f1,f2,f3,rfl⟩:=gT g3;rw[hk]at f1;rw[g1]at f2;rw[g2]at f3;cases f1;cases f2;cases f3;exact Jm (hs k (Qa2 hk)) hS hM (hx.2 i k _ hk g1) (hy.2 i k _ hk g2)
end Fi.S
