import Derived.Test.YtkekcmgkpdkieaaGreatDoorPZeroB
import Derived.Test.YtkekcmgkpdkieaaGreatDoorPZeroC
import Derived.Test.YtkekcmgkpdkieaaGreatDoorPZeroD
import Derived.Test.YtkekcmgkpdkieaaGreatDoorCM
set_option linter.unusedVariables false
set_option linter.unusedSimpArgs false
noncomputable section
namespace Fi.S
open Go Fi
set_option maxHeartbeats 8000000
set_option maxRecDepth 10000
theorem alX:qD 1=age:=by
 have h1:qs 1=false:=dw;have h2:qn 1=[1]:=by
  show enc 1=[1]
  exact jQ ae ae
 have h3:qd 1=[]:=if_pos rfl;simp[qD,raw,h1,h2,h3,LD,LL,age]
theorem TN:pI [((0,0,0),0+1)]=KF:=by
 have h1:qs 1=false:=dw;have h2:qn 1=[1]:=by
  show enc 1=[1]
  exact jQ ae ae
 have h3:qd 1=[]:=if_pos rfl;have h0:(0:Rat)+1=1:=Rat.zero_add 1;rw[h0];simp[pI,eT,qC,Bi,h1,h2,h3,LD,LL,KF]
theorem RL:∃ K,E6.Has E1 K 153 acC:=by
 have hz:qz 1<=50000:=by
  have h:qz 1=max (sz 1) (sz 1):=rfl;rw[h,Cr];decide
 obtain⟨K,hK⟩:=J8 1 hz;refine⟨K,rfl,rfl,rfl,rfl,fun g hg => ?_,fun g q hq=>(by cases hq),fun ds v hv n hn => ?_⟩
 ·show(bif Nat.beq g 153 then some acC else vF g)=vF g;have:Nat.beq g 153=false:=by
   cases hb:Nat.beq g 153 with
   | false=>rfl
   | true=>exact absurd (Qm2 hb) hg
  rw[this];rfl
 ·unfold acC at hv;split at hv
  ·split at hv
   ·rename_i d hs;cases hv;rw[nK hs,<-alX,<-TN];exact hK n hn
   ·cases hv
  ·cases hv
theorem Ww (k:Int)(ps:List Int)(h:aM k ps=true):jA k ps=true:=by
 have five:∀ {a:Int},single a=true->a ∈ [1,2,3,4,5]:=by
  intro a ha;simp only[single,Qc1,decide_eq_true_eq]at ha;simp only[Qj0,Xs1,or_false];omega
 have main:∀ {f:Int->Bool} {x:Int},([1,2,3,4,5].all f)=true->x ∈ [1,2,3,4,5]->f x=true:=by
  intro f x h1 h2;exact Qh0.1 h1 _ h2
 unfold aM at h
 by_cases hk:k=6
 ·subst hk;rw[if_neg aC]at h;simp only[Qc1,decide_eq_true_eq,Qh0]at h;obtain⟨⟨h2,h3⟩,hs⟩:=h
  match ps,h2,h3,hs with
  | [a,b],_,_,hs =>
   have ha:=five (hs a aC);have hb:=five (hs b aC);simp only[Qj0,Xs1,or_false]at ha;rcases ha with rfl|rfl|rfl|rfl|rfl
   ·exact main (f:=fun k=>jA 6 [1,k]) (x:=b) ahJ hb
   ·exact main (f:=fun k=>jA 6 [2,k]) (x:=b) ahK hb
   ·exact main (f:=fun k=>jA 6 [3,k]) (x:=b) ahL hb
   ·exact main (f:=fun k=>jA 6 [4,k]) (x:=b) ahM hb
   ·exact main (f:=fun k=>jA 6 [5,k]) (x:=b) ahN hb
  | [a,b,c],_,_,hs =>
   have ha:=five (hs a aC);have hb:=five (hs b aC);have hc:=five (hs c aC);simp only[Qj0,Xs1,or_false]at ha hb;rcases ha with rfl|rfl|rfl|rfl|rfl<;>rcases hb with rfl|rfl|rfl|rfl|rfl
   ·exact main (f:=fun k=>jA 6 [1,1,k]) (x:=c) aey hc
   ·exact main (f:=fun k=>jA 6 [1,2,k]) (x:=c) aez hc
   ·exact main (f:=fun k=>jA 6 [1,3,k]) (x:=c) aeA hc
   ·exact main (f:=fun k=>jA 6 [1,4,k]) (x:=c) aeB hc
   ·exact main (f:=fun k=>jA 6 [1,5,k]) (x:=c) aeC hc
   ·exact main (f:=fun k=>jA 6 [2,1,k]) (x:=c) aeD hc
   ·exact main (f:=fun k=>jA 6 [2,2,k]) (x:=c) aeE hc
   ·exact main (f:=fun k=>jA 6 [2,3,k]) (x:=c) aeF hc
   ·exact main (f:=fun k=>jA 6 [2,4,k]) (x:=c) aeG hc
   ·exact main (f:=fun k=>jA 6 [2,5,k]) (x:=c) aeH hc
   ·exact main (f:=fun k=>jA 6 [3,1,k]) (x:=c) aeI hc
   ·exact main (f:=fun k=>jA 6 [3,2,k]) (x:=c) aeJ hc
   ·exact main (f:=fun k=>jA 6 [3,3,k]) (x:=c) aeK hc
   ·exact main (f:=fun k=>jA 6 [3,4,k]) (x:=c) aeL hc
   ·exact main (f:=fun k=>jA 6 [3,5,k]) (x:=c) aeM hc
   ·exact main (f:=fun k=>jA 6 [4,1,k]) (x:=c) aeN hc
   ·exact main (f:=fun k=>jA 6 [4,2,k]) (x:=c) aeO hc
   ·exact main (f:=fun k=>jA 6 [4,3,k]) (x:=c) aeP hc
   ·exact main (f:=fun k=>jA 6 [4,4,k]) (x:=c) aeQ hc
   ·exact main (f:=fun k=>jA 6 [4,5,k]) (x:=c) aeR hc
   ·exact main (f:=fun k=>jA 6 [5,1,k]) (x:=c) aeS hc
   ·exact main (f:=fun k=>jA 6 [5,2,k]) (x:=c) aeT hc
   ·exact main (f:=fun k=>jA 6 [5,3,k]) (x:=c) aeU hc
   ·exact main (f:=fun k=>jA 6 [5,4,k]) (x:=c) aeV hc
   ·exact main (f:=fun k=>jA 6 [5,5,k]) (x:=c) aeW hc
 ·rw[if_pos hk]at h;simp only[Qc1,decide_eq_true_eq]at h;obtain⟨h1,rfl⟩:=h;exact main (f:=fun k=>jA k []) (x:=k) akh (five h1)
def Kt (k:Int)(ps:List Int):W:=if k=6 then gz (ps.map fun k=>(dP k).w) else(dP k).w
theorem PO (k:Int):(dP k).w.d=NI k:=by
 have h1:qs 0=false:=dw;have h2:qn 0=[]:=dF;have h3:qd 0=[]:=if_pos rfl;unfold dP NI
 by_cases a:k=2
 ·subst a;rfl
 ·have e:(k==2)=false:=by simpa using a
  rw[if_neg a,e]
  by_cases b:k=4
  ·rw[if_pos b];rfl
  ·rw[if_neg b]
   by_cases c:k=5
   ·rw[if_pos c];rfl
   ·rw[if_neg c];simp only[Sv.w,W.d,W.ds,h1,h2,h3,LD,LL,PD,Qc2]
theorem aaT (k:Int)(ps:List Int):(Kt k ps).d=Wx k ps:=by
 unfold Kt Wx
 by_cases h:k=6
 ·rw[if_pos h,if_pos h];have:W.ds (ps.map fun k=>(dP k).w)=ps.map NI:=by
   rw[W.iF,Q60];exact Xb1 fun x _=>PO x
  show D.a [vB false,.s 1 [],.s 1 [],vI 0,vB false,.v (.int .u64 0),.s 6 [],.s 8 (W.ds (ps.map fun k=>(dP k).w))]=_;rw[this]
 ·rw[if_neg h,if_neg h,PO]
theorem Wy {k:Int}{ps:List Int}(h:aM k ps=true):Ca E1 26 [.d (aV k ps)] (.d (Kt k ps).d,none):=by
 have h1:=Ww k ps h;unfold jA at h1;rw[Qc1]at h1;have h2:=h1.1;split at h2
 ·rename_i z hz;rw[aaT,<-nK h2];exact Ca.gV (Ca.of hz)
 ·cases h2
theorem aaU {k:Int}{ps:List Int}(h:aM k ps=true):Ca E1 27 [.d (aV k ps)] (.d (Gb k ps),none)/\Ca E1 20 [.d (aV k ps)] (.d (Gb k ps),none):=by
 obtain⟨K,hK⟩:=RL;have h1:=Ww k ps h;unfold jA at h1;rw[Qc1,Qc1]at h1;obtain⟨_,h2,h3⟩:=h1;refine⟨?_,?_⟩
 ·split at h2
  ·rename_i z hz;rw[<-nK h2];exact Ca.of (Gc hK hz)
  ·cases h2
 ·split at h3
  ·rename_i z hz;rw[<-nK h3];exact Ca.of (Gc hK hz)
  ·cases h3
noncomputable def AA (v:Int):List bz :=
 if (v.tdiv 5) % 2=1 then gN (cB (su (v % 5-2) 3)) (iX [(iG ((v.tdiv 10) % 3).toNat,1)] (cB (vk v))) else cB (su (v % 5-2) 3)
noncomputable def DD (k v:Int):Sv :=
 if k=1 then .q (vk v) else if k=2 then(if v % 11=10 then .c true 0 else .c false (v % 11)) else if k=3 then .q (su (v % 7) 6) else if k=4 then .s (v % 16) else .p (AA v)
theorem NJ {a b:Int}(ha:a.natAbs<4294967296)(hb:b.natAbs<4294967296)(hb0:b≠0):qz (su a b)<=1:=by
 unfold su;refine Qd1 (Cv ae) ?_;have h1:sz a.natAbs<=1:=vG ae;have h2:sz b.natAbs<=1:=vG ae;exact Nat.max_le.2 ⟨h1,h2⟩
theorem BN (v:Int):qz (vk v)<=1:=by
 have h1:=Qp0 v (show(13:Int)≠0 by omega);have h2:=Qm0 v (show(0:Int)<13 by omega);have h3:=Qp0 (v.tdiv 13) (show(3:Int)≠0 by omega);have h4:=Qm0 (v.tdiv 13) (show(0:Int)<3 by omega);exact NJ ae ae ae
theorem DF (v:Int):qz (su (v % 5-2) 3)<=1:=by
 have h1:=Qp0 v (show(5:Int)≠0 by omega);have h2:=Qm0 v (show(0:Int)<5 by omega);exact NJ ae ae ae
theorem DI (i:Nat):PV 1 [(iG i,1)]:=by
 refine⟨Qn1.2 ⟨fun _ h=>(by cases h),List.Pairwise.nil⟩,fun p hp => ?_,fun p hp => ?_,fun p hp => ?_⟩<;>(rw[Q02]at hp;subst hp)
 ·exact(by decide:(1:Rat)≠0)
 ·show bT (iG i)=true;unfold iG;split
  ·decide
  ·split<;>decide
 ·show qz 1<=1;have h:qz 1=max (sz 1) (sz 1):=rfl;rw[h,Cr];decide
theorem zI (x:Rat):(cB x).length<=1:=by unfold cB;split<;>simp
theorem Wz (v:Int):PV 9 (AA v)/\(AA v).length<=2:=by
 have hc:=kN (DF v);have hn:=kN (BN v);have hm:=iL (a:=[(iG ((v.tdiv 10) % 3).toNat,1)]) ae (DI _) hn;have hl:=Av [(iG ((v.tdiv 10) % 3).toNat,1)] (cB (vk v));have l1:=zI (vk v);have l2:=zI (su (v % 5-2) 3);simp only[Qf1,Qs1]at hm hl;unfold AA;split
 ·refine⟨(gY (S:=4) (T:=4) ae ae (hc.mono ae) (hm.mono ae)),?_⟩;have:=Au (cB (su (v % 5-2) 3)) (iX [(iG ((v.tdiv 10) % 3).toNat,1)] (cB (vk v)));omega
 ·exact⟨hc.mono ae,ae⟩
theorem PQ {k:Int}(hk:single k=true)(v:Int):(DD k v).of k 9 2:=by
 unfold DD;rcases aQ hk with rfl|rfl|rfl|rfl|rfl
 ·rw[if_pos rfl];exact⟨.inl rfl,Qd1 (BN v) ae⟩
 ·rw[if_neg dw,if_pos rfl];have h1:=Qp0 v (show(11:Int)≠0 by omega);have h2:=Qm0 v (show(0:Int)<11 by omega);split
  ·exact⟨rfl,dw,dw,fun _=>rfl⟩
  ·exact⟨rfl,h1,ae,fun h=>by cases h⟩
 ·rw[if_neg dw,if_neg dw,if_pos rfl];have h1:=Qp0 v (show(7:Int)≠0 by omega);have h2:=Qm0 v (show(0:Int)<7 by omega);have hs:qz (su (v % 7) 6)<=1:=NJ ae ae ae;refine⟨.inr ⟨rfl,?_⟩,ae⟩;have h3:v % 7=0\/v % 7=1\/v % 7=2\/v % 7=3\/v % 7=4\/v % 7=5\/v % 7=6:=ae;rcases h3 with h|h|h|h|h|h|h<;>rw[h]<;>decide +kernel
 ·rw[if_neg dw,if_neg dw,if_neg dw,if_pos rfl];have h1:=Qp0 v (show(16:Int)≠0 by omega);have h2:=Qm0 v (show(0:Int)<16 by omega);exact⟨rfl,h1,ae⟩
 ·rw[if_neg dw,if_neg dw,if_neg dw,if_neg dw];exact⟨rfl,Wz v⟩
theorem aeX:cz E0 80 35 [.d (aV 2 [])] []=some (.d (NI 2),none):=aaV (by kernel_rfl)
theorem ahO (v:Int)(hv:gM v):Ca E1 16 [.d (aV 1 []),dI v] (.d (Sv.q (vk v)).w.d,none):=by
 obtain⟨N,t⟩:=(Ca.gV (F9 v hv)).get;refine Ca.bQ (n:=N+100) ?_;rw[aB rfl (k16:E1.fn _=_) rfl];generalize vk v=x at*;simp only[Sv.w,W.d,W.ds,PD,aV,LK,qD,raw,LD,Qc2]at*;generalize qs x=s,LL (qn x)=ns,LL (qd x)=ds at*;simp[f16,t]
theorem ahP (v:Int)(hv:gM v):Ca E1 16 [.d (aV 2 []),dI v] (.d (if v % 11=10 then Sv.c true 0 else .c false (v % 11)).w.d,none):=by
 obtain⟨N,hN,t,t2⟩:=((Ca.gV (jK v 11 hv ae ae)).j ((Ca.gV (Ca.of aeX)).any)).at 0;refine Ca.bQ (n:=N+100) ?_;rw[aB rfl (k16:E1.fn _=_) rfl];generalize v % 11=j at*
 by_cases h:j=10
 ·subst h;rw[if_pos rfl];simp only[Sv.w,W.d,W.ds,PD,aV,LK,LD,LL,Qc2,NI]at*;simp[f16,t,t2]
 ·have h':(j==10)=false:=by simpa using h
  rw[if_neg h];simp only[Sv.w,W.d,W.ds,PD,aV,LK,LD,LL,Qc2]at*;simp[f16,t,h,h']
theorem aeY (v:Int)(hv:gM v):Ca E1 16 [.d (aV 3 []),dI v] (.d (Sv.q (su (v % 7) 6)).w.d,none):=by
 have h1:=Qp0 v (show(7:Int)≠0 by omega);have h2:=Qm0 v (show(0:Int)<7 by omega);obtain⟨N,hN,t1,t2⟩:=((Ca.gV (jK v 7 hv ae ae)).j ((Ca.gV (C8 (v % 7) 6 ae dw dw)).any)).at 0;refine Ca.bQ (n:=N+100) ?_;rw[aB rfl (k16:E1.fn _=_) rfl];generalize su (v % 7) 6=x at*;generalize v % 7=j at*;simp only[Sv.w,W.d,W.ds,PD,aV,LK,qD,raw,LD,Qc2]at*;generalize qs x=s,LL (qn x)=ns,LL (qd x)=ds at*;simp[f16,t1,t2]
theorem ahQ (v:Int)(hv:gM v):Ca E1 16 [.d (aV 4 []),dI v] (.d (Sv.s (v % 16)).w.d,none):=by
 have h1:=Qp0 v (show(16:Int)≠0 by omega);have h2:=Qm0 v (show(0:Int)<16 by omega);obtain⟨N,t⟩:=(Ca.gV (jK v 16 hv ae ae)).get;have w:ak .u64 (v % 16)=v % 16:=wrap_u64 ae;refine Ca.bQ (n:=N+100) ?_;rw[aB rfl (k16:E1.fn _=_) rfl];generalize v % 16=j at*;simp only[Sv.w,W.d,W.ds,PD,aV,LK,LD,LL,Qc2]at*;simp[f16,t,w]
theorem WA {v n:Int}(hv:gM v)(hn:2<=n):gM (v.tdiv n):=by
 have h:(v.tdiv n).natAbs=v.natAbs / n.natAbs:=Int.natAbs_tdiv v n;have h2:v.natAbs / n.natAbs<=v.natAbs / 2:=Nat.div_le_div_left ae ae;unfold gM at*;omega
theorem ahR (v:Int)(hv:gM v):Ca E1 16 [.d (aV 5 []),dI v] (.d (Sv.p (AA v)).w.d,none):=by
 have h1:=Qp0 v (show(5:Int)≠0 by omega);have h2:=Qm0 v (show(0:Int)<5 by omega);have h3:=Qp0 (v.tdiv 10) (show(3:Int)≠0 by omega);have h4:=Qm0 (v.tdiv 10) (show(0:Int)<3 by omega);have r5:=WA (n:=5) hv ae;have r10:=WA (n:=10) hv ae;have w0:ak .i64 (v % 5-2)=v % 5-2:=wrap_i64 ae;have w1:ak .i64 (v.tdiv 5)=v.tdiv 5:=wrap_i64 r5;have w2:ak .i64 (v.tdiv 10)=v.tdiv 10:=wrap_i64 r10;obtain⟨N1,t1⟩:=(Ca.gV (jK v 5 hv ae ae)).any;obtain⟨N2,t2⟩:=(Ca.gV (C8 (v % 5-2) 3 ae dw dw)).any;obtain⟨N3,t3⟩:=(F8 (su (v % 5-2) 3) (by have:=DF v;omega)).any;obtain⟨N4,t4⟩:=(Ca.gV (jK (v.tdiv 5) 2 r5 ae ae)).any;obtain⟨N5,t5⟩:=(Ca.gV (jK (v.tdiv 10) 3 r10 ae ae)).any;have hi3:((v.tdiv 10) % 3).toNat<3:=ae;have p6:=Rz ((v.tdiv 10) % 3).toNat hi3;have e6:((((v.tdiv 10) % 3).toNat:Nat):Int)=(v.tdiv 10) % 3:=ae;rw[e6]at p6;obtain⟨N6,t6⟩:=p6.any;obtain⟨N7,t7⟩:=(Ca.gV (F9 v hv)).any;obtain⟨N8,t8⟩:=(Ry (S:=1) ae ae (DI ((v.tdiv 10) % 3).toNat) (vk v) (BN v) aC).any;have hm:=iL (a:=[(iG ((v.tdiv 10) % 3).toNat,1)]) ae (DI _) (kN (BN v));simp only[Qf1,Qs1]at hm;obtain⟨N9,t9⟩:=(Kg (S:=4) ae ae ((kN (DF v)).mono ae) (hm.mono ae)).any;obtain⟨N,hN⟩:∃ N,N=N1+N2+N3+N4+N5+N6+N7+N8+N9:=⟨_,rfl⟩
 replace t1:=t1 N ae;replace t2:=t2 N ae;replace t3:=t3 N ae;replace t4:=t4 N ae;replace t5:=t5 N ae;replace t6:=t6 N ae;replace t7:=t7 N ae;replace t8:=t8 N ae;replace t9:=t9 N ae;refine Ca.bQ (n:=N+150) ?_;rw[aB rfl (k16:E1.fn _=_) rfl];rw[V_];unfold AA;clear hm hN p6 e6 hi3 h1 h2 h3 h4 r5 r10;generalize vk v=x,su (v % 5-2) 3=y,((v.tdiv 10) % 3).toNat=pi at*;generalize (v.tdiv 10) % 3=j3,(v.tdiv 5) % 2=j2 at*
 by_cases h:j2=1
 ·subst h;rw[if_pos rfl];generalize gN (cB y) (iX [(iG pi,1)] (cB x))=R at*;generalize iX [(iG pi,1)] (cB x)=P2,([(iG pi,1)]:List bz)=P1,cB y=P0 at*;unfold bu at*;generalize (R.map fun p=>qC p.1 p.2)=z1,(P2.map fun p=>qC p.1 p.2)=z2,(P1.map fun p=>qC p.1 p.2)=z3,(P0.map fun p=>qC p.1 p.2)=z4 at*;simp only[aV,LK,qD,raw,LD,Qc2]at*;generalize qs x=s,LL (qn x)=ns,LL (qd x)=ds,qs y=s',LL (qn y)=ns',LL (qd y)=ds' at*;simp[f16,t1,t2,t3,t4,t5,t6,t7,t8,t9,w0,w1,w2]
 ·have h':(j2==1)=false:=by simpa using h
  rw[if_neg h];unfold bu at*;generalize cB y=P0 at*;generalize (P0.map fun p=>qC p.1 p.2)=z4 at*;simp only[aV,LK,qD,raw,LD,Qc2]at*;generalize qs y=s',LL (qn y)=ns',LL (qd y)=ds' at*;simp[f16,t1,t2,t3,t4,w0,w1,h,h']
def mdL:aG:=f16.body.r.r.r.l.r.bl.lp
def Ku (kk:Int)(ps:List Int):ai:=.box [dI kk,.d (.s 1 (LK .i64 ps))]
def RN (v:Int)(i:Nat)(t:FV)(L:List ai):St :=
 (st0 [.u,dI v,rL 0,rL 1,.u,rL 2,dI i,.u,.u,.u,.u,.u,.u,.u,.u,t] L)
theorem WB (v:Int)(kk:Int)(ps:List Int)(i:Nat)(k:Int)(L:List ai)(px:FV)(zs:List D)(z:W)(hk:ps[i]?=some k)(hn:ps.length<=3)(h0:L[0]?=some (Ku kk ps))(h1:L[1]?=some (bU (.d (.n 8))))(h2:L[2]?=some (bU px))(ho:j6 px L zs)(hz:zs.length<=3)
  (hc:Ca E1 16 [.d (aV k []),dI (ak .i64 (v+i))] (.d z.d,none)) :
  ∃ qM L',Ex E1 mdL (RN v i .u L) (.norm,RN v (i+1) .u L')/\L'[0]?=some (Ku kk ps)/\L'[1]?=some (bU (.d (.n 8)))/\L'[2]?=some (bU qM)/\j6 qM L' (zs++[z.d]):=by
 obtain⟨N,t⟩:=hc.get;have h0l:0<L.length:=(aU h0)
 have RD:1<L.length:=(aU h1)
 have Ga:2<L.length:=(aU h2)
 have hil:i<ps.length:=(aU hk)
 have n1:(LK .i64 ps).length=ps.length:=by simp[LK]
 have e1:(LK .i64 ps)[i]?=some (vI k):=by simp[LK,hk]
 have aS:ak .i64 ((i:Int)+1)=(i:Int)+1:=wrap_i64 ae;have hk1:((i+1:Nat):Int)=(i:Int)+1:=ae;have hk0:(0:Int)<=(i:Int):=ae;have hkc:(i:Int)<(ps.length:Int):=ae;obtain⟨Wn,Fe,Ff,zc,zb,zu,zp,F_,ez⟩:=z.aP;rw[ez]at t ⊢;unfold wD aV at*;have e0:LK .i64 []=[]:=rfl;rw[e0]at t;rcases ho with ⟨rfl,rfl⟩|⟨j,az,rfl,hj⟩
 ·have g2:∀ X,(L++X)[2]?=some (bU (.d (.n 8))):=fun X=>by rw[Qa0 Ga];exact h2
  refine⟨.ls (.loc L.length) 0 8 0 1,(L.set 2 (bU (.ls (.loc L.length) 0 8 0 1)))++[.row 0 8 [(.a [D.v (.bool Wn),.s 1 Fe,.s 1 Ff,vI zc,vB zb,.v (.int .u64 zu),.s 6 zp,.s 8 F_])]],Ex.of (n:=N+100) ?_,?_,?_,?_,?_⟩
  ·unfold RN;rw[hk1];clear h1;unfold bU Ku at*;generalize LK .i64 ps=l1 at*;have i1:=idx e1;have i2:=idx h2;have i0:=idx h0;simp[mdL,f16,aS,hk0,hkc,hil,n1,e1,i1,i0,i2,h0,h2,h0l,Ga,t,most,g2]
  ·rw[Qa0 (by simpa using h0l),Qb2 ae];exact h0
  ·rw[Qa0 (by simpa using RD),Qb2 ae];exact h1
  ·rw[Qa0 (by simpa using Ga)];exact Qd0 Ga
  ·exact .inr ⟨L.length,0,rfl,aC⟩
 ·have hjl:j<L.length:=(aU hj)
  have hj2:j≠2:=fun h=>by
   subst h;rw[h2]at hj;cases hj
  have hj1:j≠1:=fun h=>by
   subst h;rw[h1]at hj;cases hj
  have hj0:j≠0:=fun h=>by
   subst h;rw[h0]at hj;cases hj
  have s2:∀ r,(L.set j r)[2]?=some (bU (.ls (.loc j) az 8 0 zs.length)):=fun r=>by rw[Qb2 hj2];exact h2
  have m1:(zs.length+1)*128<=1099511627776:=ae;have m2:zs.length+1<=1099511627776:=ae;refine⟨.ls (.loc j) (az+1) 8 0 (zs.length+1),((L.set j (.row (az+1) 8 (zs++[(.a [D.v (.bool Wn),.s 1 Fe,.s 1 Ff,vI zc,vB zb,.v (.int .u64 zu),.s 6 zp,.s 8 F_])]))).set 2 (bU (.ls (.loc j) (az+1) 8 0 (zs.length+1)))),Ex.of (n:=N+100) ?_,?_,?_,?_,?_⟩
  ·unfold RN;rw[hk1];clear h1;unfold bU Ku at*;have i1:=idx e1;have i2:=idx h2;have i0:=idx h0;have i3:=idx hj;have i4:∀ r (h:2<(L.set j r).length),(L.set j r)[2]=_:=fun r h=>idx (s2 r) h
   simp[mdL,f16,aS,hk0,hkc,hil,n1,e1,i1,i0,i2,h0,h2,h0l,Ga,t,most,i3,i4,hj,hjl,s2,m1,m2]
  ·rw[Qb2 ae,Qb2 hj0];exact h0
  ·rw[Qb2 ae,Qb2 hj1];exact h1
  ·exact Qd0 (by simpa using Ga)
  ·refine .inr ⟨j,az+1,aC,?_⟩;rw[Qb2 (fun h=>hj2 h.symm)];exact Qd0 hjl
theorem aaW (v:Int)(kk:Int)(ps:List Int)(zs:List W)(hn:ps.length<=3)(hz:zs.length=ps.length)(hc:∀ (i:Nat) (k:Int) (z:W),ps[i]?=some k->zs[i]?=some z->Ca E1 16 [.d (aV k []),dI (ak .i64 (v+i))] (.d z.d,none))
  (L:List ai) (h0:L[0]?=some (Ku kk ps)) (h1:L[1]?=some (bU (.d (.n 8)))) (h2:L[2]?=some (bU (.d (.n 8)))) :
  ∃ qM L',Ex E1 (.loop mdL) (RN v 0 .u L) (.exit 1,RN v ps.length (dB false) L')/\L'[1]?=some (bU (.d (.n 8)))/\L'[2]?=some (bU qM)/\j6 qM L' (W.ds zs):=by
 have n1:(LK .i64 ps).length=ps.length:=by simp[LK]
 obtain⟨r,hx,qM,L',rfl,h5,h3,h4⟩:=Ex.inv (E:=E1) (b:=mdL) (α:=Nat × FV × List ai) (S:=fun a=>RN v a.1 .u a.2.2) (fun a=>ps.length-a.1)
  (fun a=>a.1<=ps.length/\a.2.2[0]?=some (Ku kk ps)/\a.2.2[1]?=some (bU (.d (.n 8)))/\a.2.2[2]?=some (bU a.2.1)/\j6 a.2.1 a.2.2 (W.ds (zs.take a.1)))
  (fun r=>∃ qM L',r=(.exit 1,RN v ps.length (dB false) L')/\L'[1]?=some (bU (.d (.n 8)))/\L'[2]?=some (bU qM)/\j6 qM L' (W.ds zs)) (by
   rintro⟨i,px,L⟩ ⟨q1,qa,q0,q2,q3⟩;simp only at q1 qa q0 q2 q3
   by_cases hi:i<ps.length
   ·have hk:ps[i]?=some ps[i]:=Qa1 hi;have hzi:zs[i]?=some (zs[i]'(by omega)):=Qa1 ae;have hlen:(W.ds (zs.take i)).length<=3:=by simp[W.iF];omega
    obtain⟨qM,L',g1,ga,g0,g2,g3⟩:=WB v kk ps i ps[i] L px _ _ hk hn qa q0 q2 q3 hlen (hc i _ _ hk hzi);refine .inl ⟨(i+1,qM,L'),g1,by show ps.length-(i+1)<ps.length-i;omega,by show i+1<=_;omega,ga,g0,g2,?_⟩;show j6 qM L' (W.ds (zs.take (i+1)));rw[Xa2,hzi];have e:W.ds (zs.take i++[zs[i]'(by omega)])=W.ds (zs.take i)++[(zs[i]'(by omega)).d]:=by simp only[W.iF,Qq2,Qd2,Qc2]
    show j6 qM L' (W.ds (zs.take i++[zs[i]'(by omega)]));rw[e];exact g3
   ·obtain rfl:i=ps.length:=ae;rw[<-hz,Qj1]at q3;refine .inr ⟨_,Ex.of (n:=60) ?_,?_,px,L,rfl,q0,q2,q3⟩
    ·unfold RN;unfold Ku at qa;rw[<-n1];have i0:=idx qa;have h0l:0<L.length:=(aU qa)
     simp[mdL,f16,qa,i0,h0l]
    ·simp) (0,.d (.n 8),L) ⟨Qz2 _,h0,h1,h2,.inl ⟨rfl,rfl⟩⟩
 exact⟨qM,L',hx,h5,h3,h4⟩
theorem WC (v:Int)(ps:List Int)(zs:List W)(hn:ps.length<=3)(hz:zs.length=ps.length)(hc:∀ (i:Nat) (k:Int) (z:W),ps[i]?=some k->zs[i]?=some z->Ca E1 16 [.d (aV k []),dI (ak .i64 (v+i))] (.d z.d,none)) :
  Ca E1 16 [.d (aV 6 ps),dI v] (.d (gz zs).d,none):=by
 obtain⟨px,L,hl,h1,h2,ho⟩:=aaW v 6 ps zs hn hz hc [Ku 6 ps,bU (.d (.n 8)),bU (.d (.n 8))] rfl rfl rfl;have hds:(gz zs).d=.a [vB false,.s 1 [],.s 1 [],vI 0,vB false,.v (.int .u64 0),.s 6 [],.s 8 (W.ds zs)]:=rfl;have RD:1<L.length:=(aU h1)
 have hA:∃ st,Ex E1 f16.body.l (st0 (.d (aV 6 ps)::dI v::G9) []) (.norm,st) /\
   st=(st0 (.u::dI v::rL 0::rL 1::BZ) [Ku 6 ps,bU (.d (.n 8))]):=by
  refine⟨_,Ex.of (n:=60) ?_,rfl⟩;unfold aV Ku bU;generalize LK .i64 ps=l1 at*;simp[f16]
 obtain⟨_,hA,rfl⟩:=hA;have hB:Ex E1 f16.body.r.l (st0 (.u::dI v::rL 0::rL 1::BZ) [Ku 6 ps,bU (.d (.n 8))])
   (.norm,(st0 [.u,dI v,rL 0,rL 1,.u,.u,.u,.u,.u,.u,.u,.u,.u,dB false,.u,.u] [Ku 6 ps,bU (.d (.n 8))])):=by
  refine Ex.of (n:=100) ?_;unfold Ku bU;generalize LK .i64 ps=l1 at*;simp[f16]
 have hC := nx hB f16.body.r.r.l (st0 (.u::dI v::rL 0::rL 1::.u::rL 2::qj) [Ku 6 ps,bU (.d (.n 8)),bU (.d (.n 8))]) (by
  apply e6;unfold Ku bU;generalize LK .i64 ps=l1 at*;simp[f16])
 have hC2 := nx hC f16.body.r.r.r.l.l (RN v 0 .u [Ku 6 ps,bU (.d (.n 8)),bU (.d (.n 8))]) (by
  apply e6;unfold RN Ku bU;simp[f16])
 have hD:Ex E1 f16.body.r.r.r.r (RN v ps.length (dB false) L)
   (.ret,(st0 (.u::.u::.u::rL 1::BZ) (L.set 1 (bU px)))):=by
  apply e6;unfold RN bU at*;have i1:=idx h1;have i2:=idx h2;rcases ho with ⟨rfl,_⟩|⟨j,az,rfl,_⟩
  ·simp[f16,h1,h2,i1,i2,RD]
  ·simp[f16,h1,h2,i1,i2,RD]
 refine Ca.body (o:=.ret) (st1:=(st0 (.u::.u::.u::rL 1::BZ) (L.set 1 (bU px)))) rfl (k16:E1.fn _=_) rfl ?_ (by intro id h;cases h) ?_
 ·show Ex E1 (.seq f16.body.l (.seq f16.body.r.l (.seq f16.body.r.r.l (.seq (.seq f16.body.r.r.r.l.l (.block 1 (.loop mdL))) f16.body.r.r.r.r)))) _ _;exact hA.seq (hB.seq (hC.seq ((hC2.seq hl.block).seq hD)))
 ·rw[hds];unfold bU at*;have s1:∀ o,(L.set 1 o)[1]?=some o:=fun o=>Qd0 RD
  rcases ho with ⟨rfl,e⟩|⟨j,az,rfl,hj⟩
  ·rw[e];simp[f16,s1]
  ·have hj1:j≠1:=fun h=>by
    subst h;rw[h1]at hj;cases hj
   have sj:∀ o,(L.set 1 o)[j]?=some (.row az 8 (W.ds zs)):=fun o=>by rw[Qb2 (fun h=>hj1 h.symm)];exact hj
   have ev:ai.view az 8 0 (W.ds zs).length (.row az 8 (W.ds zs))=some (W.ds zs):=by simp[ai.view]
   generalize W.ds zs=es at*;simp[f16,s1,sj,ev]
set_option maxRecDepth 4000
def iB (S M:Nat)(ps:List Int)(xs:List Sv):Prop:=xs.length=ps.length/\∀ (i:Nat) (k:Int) (x:Sv),ps[i]?=some k->xs[i]?=some x->x.of k S M
theorem PR {S M:Nat}:∀ {ps:List Int} {xs:List Sv},iB S M ps xs->vg ps (xs.map Sv.w)=true
 | [],[],_=>rfl
 | [],_::_,h=>by simp[iB]at h
 | _::_,[],h=>by simp[iB]at h
 | k::ps,x::xs,h=>by
  simp only[Qd2,vg,Qc1];exact⟨Wu (h.2 0 k x rfl rfl),PR ⟨by simpa using h.1,fun i k' x' hk hx=>h.2 (i+1) k' x' (by simpa using hk) (by simpa using hx)⟩⟩
theorem DJ {S M:Nat}{ps:List Int}(hv:aM 6 ps=true){xs:List Sv}(h:iB S M ps xs):di 6 ps (gz (xs.map Sv.w))=true:=by
 unfold di;have h1:(gz (xs.map Sv.w)).ps=xs.map Sv.w:=rfl;have h2:(gz (xs.map Sv.w)).bare=true:=rfl;rw[hv,h1,h2,PR h];simp[h.1]
theorem PS {S M:Nat}(hS:S<=1000){ps:List Int}(hps:ps.length<=3){xs:List Sv}(h:iB S M ps xs):(gz (xs.map Sv.w)).OK:=by
 have hl:cu []:=fun _ h=>(by cases h)
 refine .mk hl hl aC aC ⟨fun _ h=>(by cases h),aC⟩ (by have:=h.1;simp;omega) (fun w hw => ?_);obtain⟨x,hx,rfl⟩:=Qg1.1 hw;obtain⟨i,hi,hxi⟩:=X50.1 hx;have h1:xs[i]?=some x:=by rw[Qa1 hi,hxi]
 have h2:i<ps.length:=by rw[<-h.1];exact hi
 exact Wv (h.2 i _ x (Qa1 h2) h1) hS
noncomputable def bO (ps:List Int) (xs ys:List Sv):List Sv:=(ps.zip (xs.zip ys)).map fun p=>dJ p.1 p.2.1 p.2.2
theorem g_ {ps:List Int}{xs ys:List Sv}{i:Nat}{z:Sv}(h:(bO ps xs ys)[i]?=some z):∃ k x y,ps[i]?=some k/\xs[i]?=some x/\ys[i]?=some y/\z=dJ k x y:=by
 unfold bO at h;rw[Qc0,Qf2]at h;obtain⟨⟨k,x,y⟩,h1,rfl⟩:=h;rw[Q00]at h1;have h2:=h1.2;rw[Q00]at h2;exact⟨k,x,y,h1.1,h2.1,h2.2,rfl⟩
theorem NK {xs:List Sv}{i:Nat}{w:W}(h:(xs.map Sv.w)[i]?=some w):∃ x,xs[i]?=some x/\w=x.w:=by
 rw[Qc0,Qf2]at h;obtain⟨x,h1,rfl⟩:=h;exact⟨x,h1,rfl⟩
theorem NL {S M:Nat}(hS:S<=1000)(hM:(M+M)*(S+1)<=50000){ps:List Int}(hv:aM 6 ps=true)(v w:W){xs ys:List Sv}(hx:iB S M ps xs)(hy:iB S M ps ys)
  (h1:Ca E1 41 [.d (aV 6 ps),.d v.d] (.d (gz (xs.map Sv.w)).d,none)) (h2:Ca E1 41 [.d (aV 6 ps),.d w.d] (.d (gz (ys.map Sv.w)).d,none)) :
  Ca E1 14 [.d (aV 6 ps),.d v.d,.d w.d] (.d (gz ((bO ps xs ys).map Sv.w)).d,none):=by
 obtain⟨_,_,hs⟩:=rg6 hv;refine Wq hv v w _ _ _ (by simp[hx.1]) (by simp[hy.1]) (by simp[bO,hx.1,hy.1]) h1 h2 (fun i k x y z hk hxi hyi hzi => ?_);obtain⟨x',g1,rfl⟩:=NK hxi;obtain⟨y',g2,rfl⟩:=NK hyi;obtain⟨z',g3,rfl⟩:=NK hzi;obtain⟨k',x'',y'',f1,f2,f3,rfl⟩:=g_ g3;rw[hk]at f1;rw[g1]at f2;rw[g2]at f3;cases f1;cases f2;cases f3;exact Kr (hs k (Qa2 hk)) hS hM (hx.2 i k _ hk g1) (hy.2 i k _ hk g2)
end Fi.S
