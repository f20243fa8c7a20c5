import Derived.Test.YthojoinggmjklaaGreatDoorCX
set_option linter.unusedVariables false
set_option linter.unusedSimpArgs false
noncomputable section
namespace Fi.S
open Go Fi
set_option maxHeartbeats 8000000
set_option maxRecDepth 10000
def gH (l:List Int)(n:Int):Bool:=decide ((l.length:Int)=n)&&(l.all (fun x=>rO x n)&&decide l.Nodup)
def lJ (l:List Int)(n:Int)(j:Nat):Bool:=match l[j]? with
 | some x => !(rO x n)||decide (x ∈ l.take j)
 | none=>false
theorem AO {l:List Int}{n:Int}:(List.range l.length).findIdx? (lJ l n)=none↔(l.all (fun x=>rO x n)=true/\l.Nodup):=by
 rw[List.findIdx?_eq_none_iff];constructor
 ·intro h;have h1:∀ (j:Nat) (hj:j<l.length),rO l[j] n=true/\l[j] ∉ l.take j:=by
   intro j hj;have:=h j (List.mem_range.2 hj);unfold lJ at this;rw[List.getElem?_eq_getElem hj]at this;simpa using this
  refine⟨List.all_eq_true.2 fun x hx => ?_,?_⟩
  ·obtain⟨j,hj,rfl⟩:=List.mem_iff_getElem.1 hx;exact(h1 j hj).1
  ·rw[List.nodup_iff_pairwise_ne,List.pairwise_iff_getElem];intro i j hi hj hij he;refine(h1 j hj).2 ?_;rw[<-he];rw[List.mem_iff_getElem];exact⟨i,by rw[List.length_take];omega,by rw[List.getElem_take]⟩
 ·rintro⟨h1,h2⟩ j hj;rw[List.mem_range]at hj;unfold lJ;rw[List.getElem?_eq_getElem hj];have h3:=List.all_eq_true.1 h1 _ (List.getElem_mem hj);simp only[h3,Bool.not_true,Bool.false_or,decide_eq_false_iff_not];intro hm;obtain⟨i,hi,he⟩:=List.mem_iff_getElem.1 hm;rw[List.length_take]at hi;rw[List.getElem_take]at he;rw[List.nodup_iff_pairwise_ne,List.pairwise_iff_getElem]at h2;exact h2 i j (by omega) hj (by omega) he
theorem RN {l:List Int}{n:Int}{j:Nat}(h:(List.range l.length).findIdx? (lJ l n)=some j):(l.all (fun x=>rO x n)&&decide l.Nodup)=false:=by
 cases hb:(l.all (fun x=>rO x n)&&decide l.Nodup) with
 | false=>rfl
 | true =>
  simp only[Bool.and_eq_true,decide_eq_true_eq]at hb;rw[AO.2 hb]at h;cases h
def gV (l:List Int)(N j:Nat):List D:=(List.range N).map fun(k:Nat)=>D.v (.bool (decide ((k:Int) ∈ l.take j)))
theorem ZC (l:List Int)(N:Nat):gV l N 0=List.replicate N (.v (.bool false)):=by
 unfold gV;apply List.ext_getElem
 ·simp
 ·intro i h1 h2;simp
theorem Ey {l:List Int}{N j k:Nat}(h:k<N):(gV l N j)[k]?=some (.v (.bool (decide ((k:Int) ∈ l.take j)))):=by
 unfold gV;rw[List.getElem?_map,List.getElem?_range h];rfl
theorem RO {l:List Int}{N j k:Nat}(h:k<N)(hk:l[j]?=some (k:Int)):(gV l N j).set k (.v (.bool true))=gV l N (j+1):=by
 apply List.ext_getElem?;intro i;have htk:l.take (j+1)=l.take j++[(k:Int)]:=by rw[List.take_add_one,hk];rfl
 by_cases hi:i<N
 ·rw[Ey hi,List.getElem?_set,htk]
  by_cases he:k=i
  ·subst he;rw[if_pos rfl,if_pos (by simpa[gV] using h)];simp
  ·rw[if_neg he,Ey hi];have:¬ ((i:Int)=(k:Int)):=by omega
   simp[this]
 ·rw[List.getElem?_eq_none (by simp[gV];omega),List.getElem?_eq_none (by simp[gV];omega)]
def ZE:aD:=f1076.body.r.r.l.r.bl.lp
def Oe (l:List Int)(N j:Nat)(t:FV):St:=(st0 [.d (.s 1 (LK .i64 l)),.d (.v (.int .i64 (N:Int))),.u,.ls (.loc 0) 0 1 0 N,.u,.d (.s 1 (LK .i64 l)),.d (.v (.int .i64 l.length)),.d (.v (.int .i64 j)),t,.u] [.row 0 1 (gV l N j)])
def peF (l:List Int)(N j:Nat):Out × St:=(.ret,(st0 [.u,.u,.d (.v (.bool false)),.u,.u,.u,.u,.u,.u,.u] [.row 0 1 (gV l N j)]))
theorem RP (l:List Int)(N j:Nat)(hl:l.length<=1000000)(hn:N<=64)(x:Int)(hx:l[j]?=some x):Ex E1 ZE (Oe l N j .u) (if lJ l N j then peF l N j else(.norm,Oe l N (j+1) .u)):=by
 have hj:j<l.length:=(aT hx)
 have hj0:(0:Int)<=(j:Int):=by omega
 have aR:ak .i64 ((j:Int)+1)=(j:Int)+1:=wrap_i64 (by omega);have hk1:((j+1:Nat):Int)=(j:Int)+1:=by omega
 have hjl:(j:Int)<(l.length:Int):=by omega
 have e1:(LK .i64 l)[j]?=some (.v (.int .i64 x)):=by simp[LK,hx]
 have n1:(LK .i64 l).length=l.length:=by simp[LK]
 have nS:(gV l N j).length=N:=by simp[gV]
 have hb:lJ l N j=(!(rO x N)||decide (x ∈ l.take j)):=by unfold lJ;rw[hx]
 rw[hb]
 by_cases h1:x<0
 ·have hs:rO x N=false:=by unfold rO;simp;omega
  rw[hs];unfold Oe peF;generalize gV l N j=sn,l.length=m,LK .i64 l=es at*;have i1:=idx e1;refine Ex.of (n:=100) ?_;simp -implicitDefEqProofs[ZE,f1076,hj0,hj,hjl,e1,i1,n1,h1]
 by_cases h2:(N:Int)<=x
 ·have hs:rO x N=false:=by unfold rO;simp;omega
  rw[hs];unfold Oe peF;generalize gV l N j=sn,l.length=m,LK .i64 l=es at*;have i1:=idx e1;refine Ex.of (n:=100) ?_;simp -implicitDefEqProofs[ZE,f1076,hj0,hj,hjl,e1,i1,n1,h1,h2]
 obtain⟨k,rfl⟩:∃ k:Nat,x=(k:Int):=⟨x.toNat,by omega⟩
 have hk:k<N:=by omega
 have hs:rO (k:Int) N=true:=by unfold rO;simp;omega
 rw[hs];have sa:=Ey (l:=l) (j:=j) hk;have ss:=RO hk hx;have hk0:(0:Int)<=(k:Int):=by omega
 have hkN:(k:Int)<(N:Int):=by omega
 unfold Oe peF;rw[<-ss,hk1];clear ss;generalize decide ((k:Int) ∈ l.take j)=b at*;generalize gV l N j=sn,l.length=m,LK .i64 l=es at*;have i1:=idx e1;have i2:=idx sa;refine Ex.of (n:=100) ?_;cases b
 ·simp -implicitDefEqProofs[ZE,f1076,hj0,hj,hjl,e1,i1,n1,h1,h2,sa,i2,hk,hk0,hkN,nS,aR]
 ·simp -implicitDefEqProofs[ZE,f1076,hj0,hj,hjl,e1,i1,n1,h1,h2,sa,i2,hk,hk0,hkN,nS]
theorem VS (l:List Int)(N:Nat)(hl:l.length<=1000000)(hn:N<=64):Ca E1 1076 [.d (.s 1 (LK .i64 l)),.d (.v (.int .i64 (N:Int)))] (.d (.v (.bool (gH l N))),none):=by
 have n1:(LK .i64 l).length=l.length:=by simp[LK]
 have hloop:=Ex.pY (E:=E1) (b:=ZE) (List.range l.length) (lJ l N) (fun j=>Oe l N j .u) (.exit 0,Oe l N l.length (.d (.v (.bool false)))) (fun j=>peF l N j) (by simp) (by simp[peF])
  (fun j a ha=>by
   have hj:j<l.length:=by simpa using(aT ha)
   rw[List.getElem?_range hj]at ha;cases ha;exact RP l N j hl hn _ (List.getElem?_eq_getElem hj))
  (by
   rw[List.length_range];refine Ex.of (n:=60) ?_;unfold Oe;generalize gV l N l.length=sn at*;generalize l.length=m,LK .i64 l=es at*;simp -implicitDefEqProofs[ZE,f1076])
 have hN0:(0:Int)<=(N:Int):=by omega
 have hm1:(N:Int)<=(most:Int):=by unfold most;omega
 have sA:Ex E1 f1076.body.l (st0 [.d (.s 1 (LK .i64 l)),.d (.v (.int .i64 (N:Int))),.u,.u,.u,.u,.u,.u,.u,.u] []) (.norm,(st0 [.d (.s 1 (LK .i64 l)),.d (.v (.int .i64 (N:Int))),.u,.u,.u,.u,.u,.u,.u,.u] [])):=by
  refine Ex.of (n:=60) ?_;simp -implicitDefEqProofs[f1076]
 have sB:Ex E1 f1076.body.r.l (st0 [.d (.s 1 (LK .i64 l)),.d (.v (.int .i64 (N:Int))),.u,.u,.u,.u,.u,.u,.u,.u] []) (.norm,(st0 [.d (.s 1 (LK .i64 l)),.d (.v (.int .i64 (N:Int))),.u,.ls (.loc 0) 0 1 0 N,.u,.u,.u,.u,.u,.u] [.row 0 1 (gV l N 0)])):=by
  refine Ex.of (n:=60) ?_;rw[ZC];simp -implicitDefEqProofs[f1076,hN0,hm1]
 have sC:Ex E1 f1076.body.r.r.l.l (st0 [.d (.s 1 (LK .i64 l)),.d (.v (.int .i64 (N:Int))),.u,.ls (.loc 0) 0 1 0 N,.u,.u,.u,.u,.u,.u] [.row 0 1 (gV l N 0)]) (.norm,Oe l N 0 .u):=by
  refine Ex.of (n:=60) ?_;unfold Oe;generalize gV l N 0=sn at*;rw[<-n1];generalize LK .i64 l=es at*;simp -implicitDefEqProofs[f1076]
 cases hr:(List.range l.length).findIdx? (lJ l N) with
 | some j =>
  rw[hr]at hloop;have hp:gH l N=false:=by unfold gH;rw[RN hr,Bool.and_false]
  rw[hp];refine Ca.body (o:=.ret) rfl (k1076:E1.fn _=_) rfl (sA.seq (sB.seq (Ex.bD (sC.seq (Ex.bf hloop))))) (by simp) ?_;simp[show f1076.res=[.var 2] from rfl,show f1076.ref=false from rfl]
 | none =>
  rw[hr]at hloop;obtain⟨q1,q2⟩:=AO.1 hr;have hp:gH l N=decide ((l.length:Int)=(N:Int)):=by unfold gH;rw[q1,decide_eq_true q2];simp
  rw[hp];have sD:Ex E1 f1076.body.r.r.r (Oe l N l.length (.d (.v (.bool false)))) (.ret,(st0 [.u,.u,.d (.v (.bool (decide ((l.length:Int)=(N:Int))))),.u,.u,.u,.u,.u,.u,.u] [.row 0 1 (gV l N l.length)])):=by
   refine Ex.of (n:=60) ?_;unfold Oe;generalize gV l N l.length=sn at*;clear hloop sA sB sC hp hr q1 q2;rw[<-n1];generalize LK .i64 l=es at*
   by_cases h:(es.length:Int)=(N:Int)
   ·have h':((es.length:Int)==(N:Int))=true:=by simpa using h
    simp -implicitDefEqProofs[f1076,h,h']
   ·have h':((es.length:Int)==(N:Int))=false:=by simpa using h
    simp -implicitDefEqProofs[f1076,h,h']
  refine Ca.body (o:=.ret) rfl (k1076:E1.fn _=_) rfl (sA.seq (sB.seq (Ex.seq (sC.seq (Ex.block hloop)) sD))) (by simp) ?_;simp[show f1076.res=[.var 2] from rfl,show f1076.ref=false from rfl]
def HZ:aD:=f1077.body.r.r.l.r.bl.lp
def wzL:aD:=HZ.r.l.bl.r.r.bl.lp
def H5 (l:List Int)(N:Nat)(j:Nat)(t:FV):St:=(st0 [.d (.s 1 (LK .i64 l)),.d (.v (.int .i64 (N:Int))),.u,.d (.v (.int .i64 j)),.u,.u,t,.u,.u,.u] [])
def Tu (l:List Int)(N:Nat)(j k:Nat)(t:FV):St:=(st0 [.d (.s 1 (LK .i64 l)),.d (.v (.int .i64 (N:Int))),.u,.d (.v (.int .i64 j)),.d (.v (.int .i64 k)),.u,.u,.u,t,.u] [])
def VT:Out × St:=(.ret,(st0 [.u,.u,.d (.v (.bool false)),.u,.u,.u,.u,.u,.u,.u] []))
theorem VU (l:List Int)(N j:Nat)(hl:l.length<=1000000)(x:Int)(hx:l[j]?=some x):Ex E1 (.loop wzL) (Tu l N j 0 .u) (if (l.take j).all (fun y => !decide (y=x)) then(.exit 2,Tu l N j j (.d (.v (.bool false)))) else VT):=by
 have hj:j<l.length:=(aT hx)
 have htl:(l.take j).length=j:=by rw[List.length_take];omega
 have n1:(LK .i64 l).length=l.length:=by simp[LK]
 have e1:(LK .i64 l)[j]?=some (.v (.int .i64 x)):=by simp[LK,hx]
 have hj0:(0:Int)<=(j:Int):=by omega
 have eP:j<(LK .i64 l).length:=by omega
 have h:=Ex.kL (E:=E1) (b:=wzL) (l.take j) (fun y => !decide (y=x)) (fun k=>Tu l N j k .u) (.exit 2,Tu l N j j (.d (.v (.bool false)))) VT (by simp) (by simp[VT])
  (fun k y hy=>by
   have hk:k<j:=by
    have:=(aT hy)
    omega
   rw[List.getElem?_take_of_lt hk]at hy;have e2:(LK .i64 l)[k]?=some (.v (.int .i64 y)):=by simp[LK,hy]
   have hk0:(0:Int)<=(k:Int):=by omega
   have hkj:(k:Int)<(j:Int):=by omega
   have hke:k<(LK .i64 l).length:=by omega
   have aR:ak .i64 ((k:Int)+1)=(k:Int)+1:=wrap_i64 (by omega);have hk1:((k+1:Nat):Int)=(k:Int)+1:=by omega
   refine Ex.of (n:=100) ?_;unfold Tu VT;rw[hk1];clear hy hx n1 htl;generalize LK .i64 l=es at*;have i1:=idx e1;have i2:=idx e2
   by_cases he:y=x
   ·subst he;rw[decide_eq_true rfl];simp -implicitDefEqProofs[wzL,HZ,f1077,e1,e2,i1,i2,hj0,hk0,hkj,hke,eP]
   ·have he':(y==x)=false:=by simpa using he
    rw[decide_eq_false he];simp -implicitDefEqProofs[wzL,HZ,f1077,e1,e2,i1,i2,hj0,hk0,hkj,hke,eP,he',aR])
  (by
   rw[htl];refine Ex.of (n:=60) ?_;unfold Tu;generalize LK .i64 l=es at*;simp -implicitDefEqProofs[wzL,HZ,f1077])
 exact h
theorem RQ (l:List Int)(N j:Nat)(hl:l.length<=1000000)(hN:N<=1000000)(hlen:l.length=N)(x:Int)(hx:l[j]?=some x):Ex E1 HZ (H5 l N j .u) (if !lJ l N j then(.norm,H5 l N (j+1) .u) else VT):=by
 have hj:j<l.length:=(aT hx)
 have hjN:(j:Int)<(N:Int):=by omega
 have hj0:(0:Int)<=(j:Int):=by omega
 have aR:ak .i64 ((j:Int)+1)=(j:Int)+1:=wrap_i64 (by omega);have hdec:ak .i64 ((N:Int)-1)=(N:Int)-1:=wrap_i64 (by omega);have hk1:((j+1:Nat):Int)=(j:Int)+1:=by omega
 have e1:(LK .i64 l)[j]?=some (.v (.int .i64 x)):=by simp[LK,hx]
 have n1:(LK .i64 l).length=l.length:=by simp[LK]
 have eP:j<(LK .i64 l).length:=by omega
 have u:=fun m=>qy m x 0 ((N:Int)-1)
 have hs:yg x 0 ((N:Int)-1)=rO x N:=by
  unfold yg rO;rw[Bool.eq_iff_iff];simp only[Bool.and_eq_true,decide_eq_true_eq];omega
 rw[hs]at u;have hb:lJ l N j=(!(rO x N)||decide (x ∈ l.take j)):=by unfold lJ;rw[hx]
 have sA:Ex E1 HZ.l (H5 l N j .u) (.norm,H5 l N j (.d (.v (.bool true)))):=by
  refine Ex.of (n:=60) ?_;unfold H5;simp -implicitDefEqProofs[HZ,f1077,hjN]
 have sB:Ex E1 HZ.r.l.bl.l (H5 l N j (.d (.v (.bool true)))) (if rO x N then(.norm,(st0 [.d (.s 1 (LK .i64 l)),.d (.v (.int .i64 (N:Int))),.u,.d (.v (.int .i64 j)),.u,.u,.u,.d (.v (.bool false)),.u,.u] [])) else VT):=by
  refine Ex.of (n:=300) ?_;unfold H5 VT;clear hb sA hs;generalize rO x N=b,LK .i64 l=es at*;have i1:=idx e1;cases b
  ·simp -implicitDefEqProofs[HZ,f1077,e1,i1,hj0,eP,hdec,u]
  ·simp -implicitDefEqProofs[HZ,f1077,e1,i1,hj0,eP,hdec,u]
 rw[hb];cases hst:rO x N with
 | false =>
  rw[hst,if_neg (by simp)]at sB;rw[if_neg (by simp)];exact sA.seq (Ex.bD (Ex.bf (Ex.bD sB)))
 | true =>
  rw[hst,if_pos rfl]at sB;have sC:Ex E1 HZ.r.l.bl.r.l (st0 [.d (.s 1 (LK .i64 l)),.d (.v (.int .i64 (N:Int))),.u,.d (.v (.int .i64 j)),.u,.u,.u,.d (.v (.bool false)),.u,.u] []) (.norm,Tu l N j 0 .u):=by
   refine Ex.of (n:=60) ?_;unfold Tu;simp -implicitDefEqProofs[HZ,f1077]
  have hloop:=VU l N j hl x hx;have hm:(l.take j).all (fun y => !decide (y=x)) = !decide (x ∈ l.take j):=by
   rw[Bool.eq_iff_iff,List.all_eq_true];simp only[Bool.not_eq_true',decide_eq_false_iff_not];exact⟨fun h hm=>h x hm rfl,fun h y hy he=>h (he ▸ hy)⟩
  rw[hm]at hloop;cases hd:decide (x ∈ l.take j) with
  | true =>
   rw[hd,if_neg (by simp)]at hloop;rw[if_neg (by simp)];exact sA.seq (Ex.bD (Ex.bf (sB.seq (sC.seq (Ex.bf hloop)))))
  | false =>
   rw[hd,if_pos (by simp)]at hloop;rw[if_pos (by simp)];have sD:Ex E1 HZ.r.r (Tu l N j j (.d (.v (.bool false)))) (.norm,H5 l N (j+1) .u):=by
    refine Ex.of (n:=60) ?_;unfold Tu H5;rw[hk1];simp -implicitDefEqProofs[HZ,f1077,aR]
   exact sA.seq (Ex.seq (Ex.d9 (sB.seq (sC.seq (Ex.block hloop)))) sD)
theorem RS (l:List Int)(N:Nat)(hl:l.length<=1000000)(hN:N<=1000000):Ca E1 1077 [.d (.s 1 (LK .i64 l)),.d (.v (.int .i64 (N:Int)))] (.d (.v (.bool (gH l N))),none):=by
 have n1:(LK .i64 l).length=l.length:=by simp[LK]
 by_cases hlen:l.length=N
 ·have hne:((l.length:Int) != (N:Int))=false:=by simp[hlen]
  have hloop:=Ex.kL (E:=E1) (b:=HZ) (List.range l.length) (fun j => !lJ l N j) (fun j=>H5 l N j .u) (.exit 0,H5 l N l.length (.d (.v (.bool false)))) VT (by simp) (by simp[VT])
   (fun j a ha=>by
    have hj:j<l.length:=by simpa using(aT ha)
    rw[List.getElem?_range hj]at ha;cases ha;exact RQ l N j hl hN hlen _ (List.getElem?_eq_getElem hj))
   (by
    rw[List.length_range,hlen];refine Ex.of (n:=60) ?_;unfold H5;simp -implicitDefEqProofs[HZ,f1077])
  have hp:gH l N=(List.range l.length).all (fun j => !lJ l N j):=by
   have hd:decide ((l.length:Int)=(N:Int))=true:=decide_eq_true (by omega);unfold gH;rw[hd,Bool.true_and,Bool.eq_iff_iff,Bool.and_eq_true,decide_eq_true_eq,<-AO,List.findIdx?_eq_none_iff,List.all_eq_true];simp
  rw[hp];have sA:Ex E1 f1077.body.l (st0 [.d (.s 1 (LK .i64 l)),.d (.v (.int .i64 (N:Int))),.u,.u,.u,.u,.u,.u,.u,.u] []) (.norm,(st0 [.d (.s 1 (LK .i64 l)),.d (.v (.int .i64 (N:Int))),.u,.u,.u,.u,.u,.u,.u,.u] [])):=by
   refine Ex.of (n:=60) ?_;simp -implicitDefEqProofs[f1077]
  have sB:Ex E1 f1077.body.r.l (st0 [.d (.s 1 (LK .i64 l)),.d (.v (.int .i64 (N:Int))),.u,.u,.u,.u,.u,.u,.u,.u] []) (.norm,(st0 [.d (.s 1 (LK .i64 l)),.d (.v (.int .i64 (N:Int))),.u,.u,.u,.d (.v (.bool false)),.u,.u,.u,.u] [])):=by
   refine Ex.of (n:=60) ?_;rw[<-n1]at hne;clear hloop sA hp hlen;generalize LK .i64 l=es at*;simp -implicitDefEqProofs[f1077,hne]
  have sC:Ex E1 f1077.body.r.r.l.l (st0 [.d (.s 1 (LK .i64 l)),.d (.v (.int .i64 (N:Int))),.u,.u,.u,.d (.v (.bool false)),.u,.u,.u,.u] []) (.norm,H5 l N 0 .u):=by
   refine Ex.of (n:=60) ?_;unfold H5;simp -implicitDefEqProofs[f1077]
  cases hr:(List.range l.length).all (fun j => !lJ l N j) with
  | true =>
   rw[hr,if_pos rfl]at hloop;have sD:Ex E1 f1077.body.r.r.r (H5 l N l.length (.d (.v (.bool false)))) (.ret,(st0 [.u,.u,.d (.v (.bool true)),.u,.u,.u,.u,.u,.u,.u] [])):=by
    refine Ex.of (n:=60) ?_;unfold H5;simp -implicitDefEqProofs[f1077]
   refine Ca.body (o:=.ret) rfl (k1077:E1.fn _=_) rfl (sA.seq (sB.seq (Ex.seq (sC.seq (Ex.block hloop)) sD))) (by simp) ?_;simp[show f1077.res=[.var 2] from rfl,show f1077.ref=false from rfl]
  | false =>
   rw[hr,if_neg (by simp)]at hloop;refine Ca.body (o:=.ret) rfl (k1077:E1.fn _=_) rfl (sA.seq (sB.seq (Ex.bD (sC.seq (Ex.bf hloop))))) (by simp) ?_;simp[show f1077.res=[.var 2] from rfl,show f1077.ref=false from rfl]
 ·have hne:((l.length:Int) != (N:Int))=true:=by simp;omega
  have hp:gH l N=false:=by
   unfold gH;rw[decide_eq_false (by omega),Bool.false_and]
  rw[hp];refine Ca.bO (n:=100) ?_;rw[aA rfl (k1077:E1.fn _=_) rfl];rw[<-n1]at hne;generalize LK .i64 l=es at*;simp -implicitDefEqProofs[f1077,hne]
end Fi.S
namespace Fi.S
open Go Fi
set_option maxHeartbeats 4000000
section
theorem JD:∀ (n:Nat) (l:List Nat),l.Nodup->(∀ x ∈ l,x<n)->l.length<=n
 | 0,l,_,h=>by
  cases l with
  | nil=>simp
  | cons x r=>have:=h x (by simp);omega
 | n+1,l,hn,h=>by
  by_cases hm:n ∈ l
  ·have h1:=JD n (l.erase n) (hn.erase n) (fun x hx=>by
    have h2:=h x (List.mem_of_mem_erase hx);have h3:x≠n:=fun he=>hn.not_mem_erase (he ▸ hx)
    omega)
   rw[List.length_erase_of_mem hm]at h1;omega
  ·have h1:=JD n l hn (fun x hx=>by
    have h2:=h x hx;have h3:x≠n:=fun he=>hm (he ▸ hx)
    omega)
   omega
theorem jY {to:List Int}{n:Nat}(h:gH to n=true):to.length=n/\(∀ x ∈ to,0<=x/\x<n)/\to.Nodup:=by
 unfold gH rO at h;simp only[Bool.and_eq_true,decide_eq_true_eq,List.all_eq_true]at h;exact⟨by omega,h.2.1,h.2.2⟩
theorem Nb {to:List Int}{n:Nat}(h:gH to n=true)(k:Nat)(hk:k<n):(k:Int) ∈ to:=by
 obtain⟨h1,h2,h3⟩:=jY h;cases hd:decide ((k:Int) ∈ to) with
 | true=>exact of_decide_eq_true hd
 | false =>
  have hno:=of_decide_eq_false hd;have hp:=JD n (k::to.map Int.toNat) (by
   rw[List.nodup_cons];refine⟨fun hm => ?_,?_⟩
   ·obtain⟨x,hx,he⟩:=List.mem_map.1 hm;have:=h2 x hx;have:x=(k:Int):=by omega
    exact hno (this ▸ hx)
   ·rw[List.nodup_iff_pairwise_ne,List.pairwise_map];rw[List.nodup_iff_pairwise_ne]at h3;refine List.Pairwise.imp_of_mem (fun {a b} ha hb hab => ?_) h3;have:=h2 a ha;have:=h2 b hb;omega) (fun x hx=>by
   rcases List.mem_cons.1 hx with rfl|hx
   ·exact hk
   ·obtain⟨y,hy,rfl⟩:=List.mem_map.1 hx;have:=h2 y hy;omega)
  simp only[List.length_cons,List.length_map]at hp;omega
section
variable {β:Type}
def bn (z:β)(n:Nat)(to:List Int)(xs:List β)(j:Nat):List β:=((to.zip xs).take j).foldl (fun r p=>r.set p.1.toNat p.2) (List.replicate n z)
theorem RU (z:β)(n:Nat)(to:List Int)(xs:List β):bn z n to xs 0=List.replicate n z:=rfl
theorem mV {z:β}{n:Nat}{to:List Int}{xs:List β}{j k:Nat}{x:β}(h1:to[j]?=some (k:Int))(h2:xs[j]?=some x):bn z n to xs (j+1)=(bn z n to xs j).set k x:=by
 have:(to.zip xs)[j]?=some ((k:Int),x):=List.getElem?_zip_eq_some.2 ⟨h1,h2⟩;unfold bn;rw[List.take_add_one,this,List.foldl_append];rfl
theorem dX (z:β)(n:Nat)(to:List Int)(xs:List β)(j:Nat):(bn z n to xs j).length=n:=by
 unfold bn;have:∀ (l:List (Int × β)) (r:List β),(l.foldl (fun r p=>r.set p.1.toNat p.2) r).length=r.length:=by
  intro l
  induction l with
  | nil=>intro r;rfl
  | cons p l ih=>intro r;rw[List.foldl_cons,ih];simp
 rw[this];simp
theorem RV {γ:Type}(f:β->γ)(z:β)(n:Nat)(to:List Int)(xs:List β)(j:Nat):(bn z n to xs j).map f=bn (f z) n to (xs.map f) j:=by
 unfold bn;have:∀ (l:List (Int × β)) (r:List β),(l.foldl (fun r p=>r.set p.1.toNat p.2) r).map f=(l.map fun p=>(p.1,f p.2)).foldl (fun r p=>r.set p.1.toNat p.2) (r.map f):=by
  intro l
  induction l with
  | nil=>intro r;rfl
  | cons p l ih=>intro r;rw[List.foldl_cons,ih,List.map_cons,List.foldl_cons,List.map_set]
 rw[this,List.map_replicate,List.map_take]
 congr 2
 rw[List.zip_map_right];rfl
theorem KX {z:β}{n:Nat}{to:List Int}{xs:List β}(h:gH to n=true):∀ j,j<=n->j<=xs.length->∀ i,i<j->∃ k:Nat,to[i]?=some (k:Int)/\(bn z n to xs j)[k]?=xs[i]?
 | 0,_,_=>fun i hi=>by omega
 | j+1,hj,hx=>fun i hi=>by
  obtain⟨h1,h2,h3⟩:=jY h;have hjl:j<to.length:=by omega
  obtain⟨k,hk⟩:∃ k:Nat,to[j]?=some (k:Int):=by
   have:=h2 _ (List.getElem_mem hjl);exact⟨(to[j]).toNat,by rw[List.getElem?_eq_getElem hjl];congr 1;omega⟩
  have hkn:k<n:=by
   have:=h2 _ (List.mem_of_getElem? hk);omega
  have hxj:xs[j]?=some (xs[j]'(by omega)):=List.getElem?_eq_getElem (by omega);rw[mV hk hxj]
  by_cases he:i=j
  ·subst he;refine⟨k,hk,?_⟩;rw[List.getElem?_set_self (by rw[dX];exact hkn),hxj]
  ·obtain⟨k',a1,a2⟩:=KX (z:=z) (xs:=xs) h j (by omega) (by omega) i (by omega);refine⟨k',a1,?_⟩;rw[List.getElem?_set_ne,a2];intro hkk;subst hkk;have q1:=(List.getElem?_eq_some_iff.1 hk)
   have q2:=(List.getElem?_eq_some_iff.1 a1)
   obtain⟨q1,e1⟩:=q1;obtain⟨q2,e2⟩:=q2;rw[List.nodup_iff_pairwise_ne,List.pairwise_iff_getElem]at h3;exact h3 i j q2 q1 (by omega) (by rw[e1,e2])
theorem GR {z:β}{n:Nat}{to:List Int}{xs:List β}(h:gH to n=true)(hx:xs.length=n):∀ x ∈ bn z n to xs n,x ∈ xs:=by
 intro x hxm;obtain⟨k,hk,he⟩:=List.mem_iff_getElem.1 hxm;rw[dX]at hk;have hin:=Nb h k hk;obtain⟨i,hi,hie⟩:=List.mem_iff_getElem.1 hin;obtain⟨h1,_,_⟩:=jY h;obtain⟨k',a1,a2⟩:=KX (z:=z) (xs:=xs) h n (Nat.le_refl _) (by omega) i (by omega);have:k'=k:=by
  rw[List.getElem?_eq_getElem hi,hie]at a1;have:=Option.some.inj a1;omega
 subst this;rw[List.getElem?_eq_getElem (by rw[dX];exact hk),he]at a2;exact List.mem_of_getElem? a2.symm
end
end
end Fi.S
namespace Fi.S
open Go Fi
set_option maxHeartbeats 8000000
set_option maxRecDepth 10000
def dF:ae:=.box [.d (.v (.int .i64 0)),.d (.n 1),.d (.v (.int .i64 0)),.d (.v (.int .i64 0)),.d (.n 8),.d (.n 8),.d (.n 11)]
def bB (kk:Int)(ps:List Int)(sy st:Int)(n:Nat)(px:FV):ae:=.box [.d (.v (.int .i64 kk)),.d (.s 1 (LK .i64 ps)),.d (.v (.int .i64 sy)),.d (.v (.int .i64 st)),.ls (.loc 2) 0 8 0 n,.ls (.loc 3) 0 8 0 n,px]
def rnL:aD:=f1029.body.r.r.r.r.l.r.bl.lp
def Og (to:List Int)(bx ox:ae)(R1 R2:List D)(j:Nat)(t:FV):St :=
 (st0 [.u,.d (.s 1 (LK .i64 to)),.r (.loc 0) 0,.r (.loc 1) 0,.u,.r (.loc 4) 0,.u,.u,.u,.u,.u,.d (.s 1 (LK .i64 to)),.d (.v (.int .i64 to.length)),.d (.v (.int .i64 j)),t,.u,.u,.u,.u] [bx,dF,.row 0 8 R1,.row 0 8 R2,ox])
theorem RX (kk:Int)(ps:List Int)(sy st:Int)(aL fin:List W)(ah:List D)(to:List Int)(n:Nat)(R1 R2:List D)(hl:to.length<=1000000)(l1:R1.length=n)(l2:R2.length=n)(j k:Nat)(v w:W)
  (hk:to[j]?=some (k:Int)) (hkn:k<n) (hv:aL[j]?=some v) (hw:fin[j]?=some w) (w1 w2:W) (r1:R1[k]?=some w1.d) (r2:R2[k]?=some w2.d) :
  Ex E1 rnL (Og to (aM kk ps sy st (aL.map W.d) (fin.map W.d) ah) (bB kk ps sy st n (.d (.n 11))) R1 R2 j .u)
   (.norm,Og to (aM kk ps sy st (aL.map W.d) (fin.map W.d) ah) (bB kk ps sy st n (.d (.n 11))) (R1.set k v.d) (R2.set k w.d) (j+1) .u):=by
 have hj:j<to.length:=(aT hk)
 have hj0:(0:Int)<=(j:Int):=by omega
 have aR:ak .i64 ((j:Int)+1)=(j:Int)+1:=wrap_i64 (by omega);have hk1:((j+1:Nat):Int)=(j:Int)+1:=by omega
 have hjl:(j:Int)<(to.length:Int):=by omega
 have hk0:(0:Int)<=(k:Int):=by omega
 have hkN:(k:Int)<(n:Int):=by omega
 have e1:(LK .i64 to)[j]?=some (.v (.int .i64 k)):=by simp[LK,hk]
 have e2:(aL.map W.d)[j]?=some v.d:=by simp[hv]
 have e3:(fin.map W.d)[j]?=some w.d:=by simp[hw]
 have n1:(LK .i64 to).length=to.length:=by simp[LK]
 obtain⟨s,a1,a2,c,b,u,q,p,ev⟩:=v.aW;obtain⟨s',a1',a2',c',b',u',q',p',ew⟩:=w.aW;obtain⟨s1,b1,b2,c1,d1,f1,g1,h1,ev1⟩:=w1.aW;obtain⟨s2,b3,b4,c2,d2,f2,g2,h2,ev2⟩:=w2.aW;rw[ev1]at r1;rw[ev2]at r2;rw[ev]at e2 ⊢;rw[ew]at e3 ⊢;unfold Og aM bB dF wD at*;rw[hk1];generalize to.length=m,LK .i64 to=es,LK .i64 ps=l9,aL.map W.d=x1,fin.map W.d=x2 at*;have i1:=idx e1;have i2:=idx e2;have i3:=idx e3;have j2:j<x1.length:=(aT e2)
 have j3:j<x2.length:=(aT e3)
 have i4:=idx r1;have i5:=idx r2;have k1:k<R1.length:=by omega
 have k2:k<R2.length:=by omega
 refine Ex.of (n:=200) ?_;simp -implicitDefEqProofs[rnL,f1029,hj0,hj,hjl,hk0,hkN,hkn,e1,e2,e3,i1,i2,i3,n1,j2,j3,k1,k2,l1,l2,r1,r2,i4,i5,aR,checked,l7,BG,Ref.abs]
def RY:aD:=f1030.body.r.r.r.r.l.r.bl.lp
def yh (to:List Int)(bx ox:ae)(R1 R2:List D)(j:Nat)(t:FV):St :=
 (st0 [.u,.d (.s 1 (LK .i64 to)),.r (.loc 0) 0,.r (.loc 1) 0,.u,.r (.loc 4) 0,.d (.v (.int .i64 j)),.u,.u,.u,.u,t,.u] [bx,dF,.row 0 8 R1,.row 0 8 R2,ox])
theorem Nc (kk:Int)(ps:List Int)(sy st:Int)(aL fin:List W)(ah:List D)(to:List Int)(n:Nat)(R1 R2:List D)(hl:to.length<=1000000)(hst:st=(n:Int))(hn:n<=1000000)(l1:R1.length=n)(l2:R2.length=n)(j k:Nat)(hjn:j<n)(v w:W)
  (hk:to[j]?=some (k:Int)) (hkn:k<n) (hv:aL[j]?=some v) (hw:fin[j]?=some w) (w1 w2:W) (r1:R1[k]?=some w1.d) (r2:R2[k]?=some w2.d) :
  Ex E1 RY (yh to (aM kk ps sy st (aL.map W.d) (fin.map W.d) ah) (bB kk ps sy st n (.d (.n 11))) R1 R2 j .u)
   (.norm,yh to (aM kk ps sy st (aL.map W.d) (fin.map W.d) ah) (bB kk ps sy st n (.d (.n 11))) (R1.set k v.d) (R2.set k w.d) (j+1) .u):=by
 have hj:j<to.length:=(aT hk)
 have aeG:(j:Int)<st:=by omega
 have hj0:(0:Int)<=(j:Int):=by omega
 have aR:ak .i64 ((j:Int)+1)=(j:Int)+1:=wrap_i64 (by omega);have hk1:((j+1:Nat):Int)=(j:Int)+1:=by omega
 have hjl:(j:Int)<(to.length:Int):=by omega
 have hk0:(0:Int)<=(k:Int):=by omega
 have hkN:(k:Int)<(n:Int):=by omega
 have e1:(LK .i64 to)[j]?=some (.v (.int .i64 k)):=by simp[LK,hk]
 have e2:(aL.map W.d)[j]?=some v.d:=by simp[hv]
 have e3:(fin.map W.d)[j]?=some w.d:=by simp[hw]
 have n1:(LK .i64 to).length=to.length:=by simp[LK]
 obtain⟨s,a1,a2,c,b,u,q,p,ev⟩:=v.aW;obtain⟨s',a1',a2',c',b',u',q',p',ew⟩:=w.aW;obtain⟨s1,b1,b2,c1,d1,f1,g1,h1,ev1⟩:=w1.aW;obtain⟨s2,b3,b4,c2,d2,f2,g2,h2,ev2⟩:=w2.aW;rw[ev1]at r1;rw[ev2]at r2;rw[ev]at e2 ⊢;rw[ew]at e3 ⊢;unfold yh aM bB dF wD at*;rw[hk1];generalize to.length=m,LK .i64 to=es,LK .i64 ps=l9,aL.map W.d=x1,fin.map W.d=x2 at*;have i1:=idx e1;have i2:=idx e2;have i3:=idx e3;have j2:j<x1.length:=(aT e2)
 have j3:j<x2.length:=(aT e3)
 have i4:=idx r1;have i5:=idx r2;have k1:k<R1.length:=by omega
 have k2:k<R2.length:=by omega
 refine Ex.of (n:=200) ?_;simp -implicitDefEqProofs[RY,f1030,hj0,hj,hjl,hk0,hkN,hkn,e1,e2,e3,i1,i2,i3,n1,j2,j3,k1,k2,l1,l2,r1,r2,i4,i5,aR,aeG,checked,l7,BG,Ref.abs]
section
def uZ (px:FV)(L:List ae)(aq:List D):Prop:=(px=.d (.n 11)/\aq=[])\/∃ i av,5<=i/\px=.ls (.loc i) av 11 0 aq.length/\L[i]?=some (.row av 11 aq)
variable {α:Type} {e:α->W}
def Ar.to (a:Ar α)(f t:Int):Ar α:=⟨f,a.l,t,a.x⟩
def H6:aD:=f1029.body.r.r.r.r.r.l.r.bl.lp
def AP (to:List Int)(ah:List D)(L:List ae)(j:Nat)(t:FV):St :=
 (st0 [.u,.d (.s 1 (LK .i64 to)),.u,.r (.loc 1) 0,.u,.r (.loc 4) 0,.u,.u,.u,.u,.u,.u,.u,.u,.u,.d (.s 11 ah),.d (.v (.int .i64 ah.length)),.d (.v (.int .i64 j)),t] L)
def Xf (to:List Int)(ah:List D)(L:List ae)(j:Nat)(p:FV)(t:FV):St :=
 (st0 [.u,.d (.s 1 (LK .i64 to)),.u,.r (.loc 1) 0,.u,.r (.loc 4) 0,.u,.u,p,.u,.u,.u,.u,.u,.u,.d (.s 11 ah),.d (.v (.int .i64 ah.length)),.d (.v (.int .i64 j)),t] L)
theorem RZ (kk:Int)(ps:List Int)(sy st:Int)(aL fin:List D)(to:List Int)(n:Nat)(ah:List (Ar α))(h3:ah.length<=1000000)(L:List ae)(px:FV)(aq:List D)(hlen:aq.length<=1000000)(h0:L[0]?=some (aM kk ps sy st aL fin (ah.map (Ar.d e))))(h4:L[4]?=some (bB kk ps sy st n px))(ho:uZ px L aq)
  (j f t kf kt:Nat) (a:Ar α) (ha:ah[j]?=some a) (haf:a.f=(f:Int)) (hat:a.t=(t:Int)) (hf:to[f]?=some (kf:Int)) (ht:to[t]?=some (kt:Int)) :
  ∃ qX L',Ex E1 H6 (AP to (ah.map (Ar.d e)) L j .u) (.norm,AP to (ah.map (Ar.d e)) L' (j+1) .u)/\(∀ i,i<4->L'[i]?=L[i]?)/\L'[4]?=some (bB kk ps sy st n qX)/\uZ qX L' (aq++[(a.to kf kt).d e]):=by
 have hj:j<ah.length:=(aT ha)
 have hj0:(0:Int)<=(j:Int):=by omega
 have aR:ak .i64 ((j:Int)+1)=(j:Int)+1:=wrap_i64 (by omega);have hk1:((j+1:Nat):Int)=(j:Int)+1:=by omega
 have hjl:(j:Int)<(ah.length:Int):=by omega
 have e1:(ah.map (Ar.d e))[j]?=some (a.d e):=by simp[ha]
 have n3:(ah.map (Ar.d e)).length=ah.length:=by simp
 have ef:(LK .i64 to)[f]?=some (.v (.int .i64 kf)):=by simp[LK,hf]
 have et:(LK .i64 to)[t]?=some (.v (.int .i64 kt)):=by simp[LK,ht]
 have f0:(0:Int)<=(f:Int):=by omega
 have t0:(0:Int)<=(t:Int):=by omega
 have b4l:4<L.length:=(aT h4)
 have Ep:0<L.length:=by omega
 obtain⟨B,hB⟩:∃ B,L.length=B:=⟨_,rfl⟩
 have hg:=fun(o:ae)=>jN (o:=o) hB
 have hs:=fun(o o':ae)=>jO (o:=o) (o':=o') hB
 have g4:∀ X,(L++X)[4]?=some (bB kk ps sy st n px):=fun X=>by rw[List.getElem?_append_left b4l];exact h4
 have sA:Ex E1 H6.l (AP to (ah.map (Ar.d e)) L j .u) (.norm,AP to (ah.map (Ar.d e)) L j (.d (.v (.bool true)))):=by
  refine Ex.of (n:=60) ?_;clear hg hs g4;unfold AP aM at*;generalize LK .i64 to=es,LK .i64 ps=l9,ah.map (Ar.d e)=x3 at*;have i0:=idx h0;have ZF:(j:Int)<(x3.length:Int):=by omega
  simp -implicitDefEqProofs[H6,f1029,hjl,ZF,n3,h0,i0,Ep]
 have sB:Ex E1 H6.r.r.l.bl.l (AP to (ah.map (Ar.d e)) L j (.d (.v (.bool true)))) (.norm,Xf to (ah.map (Ar.d e)) (L++[cz e a]) j (.r (.loc B) 0) .u):=by
  refine Ex.of (n:=60) ?_;clear ef et hf ht;unfold AP Xf aM cz at*;obtain⟨s,l1,l2,c,b,u',q,ps',ew,ed⟩:=a.dG e;rw[ed]at e1 ⊢;unfold mH at*;simp only[D.cells,List.map_cons,List.map_nil];generalize LK .i64 to=es,LK .i64 ps=l9,ah.map (Ar.d e)=x3 at*;have i0:=idx h0;have i1:=idx e1;have eP:j<x3.length:=(aT e1)
  simp -implicitDefEqProofs[H6,f1029,hj0,eP,e1,i0,i1,h0,hg,hs,hB,Ep]
 have h4':=g4 [cz e a];have hB':(L++[cz e a])[B]?=some (cz e a):=hg _;have ho':uZ px (L++[cz e a]) aq:=by
  rcases ho with h|⟨i,av,h5,h6,h7⟩
  ·exact .inl h
  ·exact .inr ⟨i,av,h5,h6,by rw[List.getElem?_append_left (aT h7)];exact h7⟩
 have hk4:∀ i,i<4->(L++[cz e a])[i]?=L[i]?:=fun i hi=>List.getElem?_append_left (by omega)
 have h0':(L++[cz e a])[0]?=some (aM kk ps sy st aL fin (ah.map (Ar.d e))):=by rw[hk4 0 (by omega)];exact h0
 have hLn:4<B:=by omega
 generalize hL1:L++[cz e a]=M at*;clear hg hs g4 ho;have Nf:4<M.length:=(aT h4')
 have cBl:B<M.length:=(aT hB')
 have sC:∃ qX M',Ex E1 H6.r.r.l.bl.r (Xf to (ah.map (Ar.d e)) M j (.r (.loc B) 0) .u) (.norm,Xf to (ah.map (Ar.d e)) M' j .u .u)/\(∀ i,i<4->M'[i]?=M[i]?)/\M'[4]?=some (bB kk ps sy st n qX)/\uZ qX M' (aq++[(a.to kf kt).d e]):=by
  obtain⟨s,l1,l2,c,b,u',q,ps',ew,ed⟩:=a.dG e;have Tt:(a.to kf kt).d e=mH kf a.l kt s l1 l2 c b u' q ps':=by
   obtain⟨f',l',t',x'⟩:=a;unfold Ar.to Ar.d mH at*;simp only at ew;rw[ew];rfl
  rw[Tt];unfold cz at hB';rw[ed,haf,hat]at hB';unfold mH at*;simp only[D.cells,List.map_cons,List.map_nil]at hB';have m1:152<=most:=by unfold most;omega
  have m2:1<=most:=by unfold most;omega
  have m3:(aq.length+1)*152<=most:=by unfold most;omega
  have m4:aq.length+1<=most:=by unfold most;omega
  rcases ho' with ⟨rfl,rfl⟩|⟨i,av,h5,rfl,h7⟩
  ·refine⟨.ls (.loc M.length) 0 11 0 1,M.set 4 (bB kk ps sy st n (.ls (.loc M.length) 0 11 0 1))++[.row 0 11 [.a [.v (.int .i64 kf),.v (.int .i64 a.l),.v (.int .i64 kt),.v (.bool s),.s 1 l1,.s 1 l2,.v (.int .i64 c),.v (.bool b),.v (.int .u64 u'),.s 6 q,.s 8 ps']]],Ex.of (n:=200) ?_,fun i hi => ?_,?_,.inr ⟨M.length,0,by omega,rfl,by simp⟩⟩
   ·unfold Xf bB aM at*;clear hL1 sA sB hk4 h0 h4 e1 ed Tt ew;generalize LK .i64 to=es,LK .i64 ps=l9,ah.map (Ar.d e)=x3 at*;have i1:=idx ef;have i2:=idx et;have i3:=idx h4';have i4:=idx hB';have j1:f<es.length:=(aT ef)
    have j2:t<es.length:=(aT et)
    have g4:∀ X,(M++X)[4]?=_:=fun X=>(List.getElem?_append_left Nf).trans h4'
    have i5:=fun X=>idx (g4 X)
    simp -implicitDefEqProofs[H6,f1029,f0,t0,ef,et,i1,i2,i3,i4,i5,j1,j2,h4',hB',g4,Nf,cBl,m1,m2]
   ·rw[List.getElem?_append_left (by simp;omega),List.getElem?_set_ne (by omega)]
   ·rw[List.getElem?_append_left (by simpa using Nf)];exact List.getElem?_set_self Nf
  ·have hil:i<M.length:=(aT h7)
   refine⟨.ls (.loc i) (av+1) 11 0 (aq.length+1),(M.set i (.row (av+1) 11 (aq++[.a [.v (.int .i64 kf),.v (.int .i64 a.l),.v (.int .i64 kt),.v (.bool s),.s 1 l1,.s 1 l2,.v (.int .i64 c),.v (.bool b),.v (.int .u64 u'),.s 6 q,.s 8 ps']]))).set 4 (bB kk ps sy st n (.ls (.loc i) (av+1) 11 0 (aq.length+1))),Ex.of (n:=200) ?_,fun i' hi => ?_,?_,.inr ⟨i,av+1,h5,by simp,?_⟩⟩
   ·unfold Xf bB aM at*;clear hL1 sA sB hk4 h0 h4 e1 ed Tt ew;generalize LK .i64 to=es,LK .i64 ps=l9,ah.map (Ar.d e)=x3 at*;have i1:=idx ef;have i2:=idx et;have i3:=idx h4';have i4:=idx hB';have i6:=idx h7;have j1:f<es.length:=(aT ef)
    have j2:t<es.length:=(aT et)
    have hne:i≠4:=by omega
    have s4:∀ r,(M.set i r)[4]?=_:=fun r=>(List.getElem?_set_ne hne).trans h4'
    have i5:∀ r (h:4<(M.set i r).length),(M.set i r)[4]=_:=fun r h=>idx (s4 r) h
    simp -implicitDefEqProofs[H6,f1029,f0,t0,ef,et,i1,i2,i3,i4,i5,i6,j1,j2,h4',hB',h7,s4,Nf,cBl,hil,m3,m4]
   ·rw[List.getElem?_set_ne (by omega),List.getElem?_set_ne (by omega)]
   ·exact List.getElem?_set_self (by simpa using Nf)
   ·rw[List.getElem?_set_ne (by omega)];exact List.getElem?_set_self hil
 obtain⟨qX,M',q1,q2,q3,q4⟩:=sC;have sE:Ex E1 H6.r.l (AP to (ah.map (Ar.d e)) L j (.d (.v (.bool true)))) (.norm,AP to (ah.map (Ar.d e)) L j (.d (.v (.bool true)))):=by
  refine Ex.of (n:=60) ?_;unfold AP;generalize LK .i64 to=es,ah.map (Ar.d e)=x3 at*;simp -implicitDefEqProofs[H6,f1029]
 have sD:Ex E1 H6.r.r.r (Xf to (ah.map (Ar.d e)) M' j .u .u) (.norm,AP to (ah.map (Ar.d e)) M' (j+1) .u):=by
  refine Ex.of (n:=60) ?_;unfold AP Xf;rw[hk1];generalize LK .i64 to=es,ah.map (Ar.d e)=x3 at*;simp -implicitDefEqProofs[H6,f1029,aR]
 exact⟨qX,M',sA.seq (Ex.seq (b:=H6.r.r) sE (Ex.seq (Ex.d9 (sB.seq q1)) sD)),fun i hi=>(q2 i hi).trans (hk4 i hi),q3,q4⟩
def Ng:aD:=f1030.body.r.r.r.r.r.l.r.bl.lp
def C8 (to:List Int)(_:List D)(L:List ae)(j:Nat)(t:FV):St :=
 (st0 [.u,.d (.s 1 (LK .i64 to)),.r (.loc 0) 0,.r (.loc 1) 0,.u,.r (.loc 4) 0,.u,.d (.v (.int .i64 j)),.u,.u,.u,.u,t] L)
def Xg (to:List Int)(_:List D)(L:List ae)(j:Nat)(p:FV)(t:FV):St :=
 (st0 [.u,.d (.s 1 (LK .i64 to)),.r (.loc 0) 0,.r (.loc 1) 0,.u,.r (.loc 4) 0,.u,.d (.v (.int .i64 j)),p,.u,.u,.u,t] L)
theorem R3 (kk:Int)(ps:List Int)(sy st:Int)(aL fin:List D)(to:List Int)(n:Nat)(ah:List (Ar α))(h3:ah.length<=1000000)(L:List ae)(px:FV)(aq:List D)(hlen:aq.length<=1000000)(h0:L[0]?=some (aM kk ps sy st aL fin (ah.map (Ar.d e))))(h4:L[4]?=some (bB kk ps sy st n px))(ho:uZ px L aq)
  (j f t kf kt:Nat) (a:Ar α) (ha:ah[j]?=some a) (haf:a.f=(f:Int)) (hat:a.t=(t:Int)) (hf:to[f]?=some (kf:Int)) (ht:to[t]?=some (kt:Int)) :
  ∃ qX L',Ex E1 Ng (C8 to (ah.map (Ar.d e)) L j .u) (.norm,C8 to (ah.map (Ar.d e)) L' (j+1) .u)/\(∀ i,i<4->L'[i]?=L[i]?)/\L'[4]?=some (bB kk ps sy st n qX)/\uZ qX L' (aq++[(a.to kf kt).d e]):=by
 have hj:j<ah.length:=(aT ha)
 have hj0:(0:Int)<=(j:Int):=by omega
 have aR:ak .i64 ((j:Int)+1)=(j:Int)+1:=wrap_i64 (by omega);have hk1:((j+1:Nat):Int)=(j:Int)+1:=by omega
 have hjl:(j:Int)<(ah.length:Int):=by omega
 have e1:(ah.map (Ar.d e))[j]?=some (a.d e):=by simp[ha]
 have n3:(ah.map (Ar.d e)).length=ah.length:=by simp
 have ef:(LK .i64 to)[f]?=some (.v (.int .i64 kf)):=by simp[LK,hf]
 have et:(LK .i64 to)[t]?=some (.v (.int .i64 kt)):=by simp[LK,ht]
 have f0:(0:Int)<=(f:Int):=by omega
 have t0:(0:Int)<=(t:Int):=by omega
 have b4l:4<L.length:=(aT h4)
 have Ep:0<L.length:=by omega
 obtain⟨B,hB⟩:∃ B,L.length=B:=⟨_,rfl⟩
 have hg:=fun(o:ae)=>jN (o:=o) hB
 have hs:=fun(o o':ae)=>jO (o:=o) (o':=o') hB
 have g4:∀ X,(L++X)[4]?=some (bB kk ps sy st n px):=fun X=>by rw[List.getElem?_append_left b4l];exact h4
 have sA:Ex E1 Ng.l (C8 to (ah.map (Ar.d e)) L j .u) (.norm,C8 to (ah.map (Ar.d e)) L j (.d (.v (.bool true)))):=by
  refine Ex.of (n:=60) ?_;clear hg hs g4;unfold C8 aM at*;generalize LK .i64 to=es,LK .i64 ps=l9,ah.map (Ar.d e)=x3 at*;have i0:=idx h0;have ZF:(j:Int)<(x3.length:Int):=by omega
  simp -implicitDefEqProofs[Ng,f1030,hjl,ZF,n3,h0,i0,Ep]
 have sB:Ex E1 Ng.r.l.bl.l (C8 to (ah.map (Ar.d e)) L j (.d (.v (.bool true)))) (.norm,Xg to (ah.map (Ar.d e)) (L++[cz e a]) j (.r (.loc B) 0) .u):=by
  refine Ex.of (n:=60) ?_;clear ef et hf ht;unfold C8 Xg aM cz at*;obtain⟨s,l1,l2,c,b,u',q,ps',ew,ed⟩:=a.dG e;rw[ed]at e1 ⊢;unfold mH at*;simp only[D.cells,List.map_cons,List.map_nil];generalize LK .i64 to=es,LK .i64 ps=l9,ah.map (Ar.d e)=x3 at*;have i0:=idx h0;have i1:=idx e1;have eP:j<x3.length:=(aT e1)
  simp -implicitDefEqProofs[Ng,f1030,hj0,eP,e1,i0,i1,h0,hg,hs,hB,Ep]
 have h4':=g4 [cz e a];have hB':(L++[cz e a])[B]?=some (cz e a):=hg _;have ho':uZ px (L++[cz e a]) aq:=by
  rcases ho with h|⟨i,av,h5,h6,h7⟩
  ·exact .inl h
  ·exact .inr ⟨i,av,h5,h6,by rw[List.getElem?_append_left (aT h7)];exact h7⟩
 have hk4:∀ i,i<4->(L++[cz e a])[i]?=L[i]?:=fun i hi=>List.getElem?_append_left (by omega)
 have h0':(L++[cz e a])[0]?=some (aM kk ps sy st aL fin (ah.map (Ar.d e))):=by rw[hk4 0 (by omega)];exact h0
 have hLn:4<B:=by omega
 generalize hL1:L++[cz e a]=M at*;clear hg hs g4 ho;have Nf:4<M.length:=(aT h4')
 have cBl:B<M.length:=(aT hB')
 have sC:∃ qX M',Ex E1 Ng.r.l.bl.r (Xg to (ah.map (Ar.d e)) M j (.r (.loc B) 0) .u) (.norm,Xg to (ah.map (Ar.d e)) M' j .u .u)/\(∀ i,i<4->M'[i]?=M[i]?)/\M'[4]?=some (bB kk ps sy st n qX)/\uZ qX M' (aq++[(a.to kf kt).d e]):=by
  obtain⟨s,l1,l2,c,b,u',q,ps',ew,ed⟩:=a.dG e;have Tt:(a.to kf kt).d e=mH kf a.l kt s l1 l2 c b u' q ps':=by
   obtain⟨f',l',t',x'⟩:=a;unfold Ar.to Ar.d mH at*;simp only at ew;rw[ew];rfl
  rw[Tt];unfold cz at hB';rw[ed,haf,hat]at hB';unfold mH at*;simp only[D.cells,List.map_cons,List.map_nil]at hB';have m1:152<=most:=by unfold most;omega
  have m2:1<=most:=by unfold most;omega
  have m3:(aq.length+1)*152<=most:=by unfold most;omega
  have m4:aq.length+1<=most:=by unfold most;omega
  rcases ho' with ⟨rfl,rfl⟩|⟨i,av,h5,rfl,h7⟩
  ·refine⟨.ls (.loc M.length) 0 11 0 1,M.set 4 (bB kk ps sy st n (.ls (.loc M.length) 0 11 0 1))++[.row 0 11 [.a [.v (.int .i64 kf),.v (.int .i64 a.l),.v (.int .i64 kt),.v (.bool s),.s 1 l1,.s 1 l2,.v (.int .i64 c),.v (.bool b),.v (.int .u64 u'),.s 6 q,.s 8 ps']]],Ex.of (n:=200) ?_,fun i hi => ?_,?_,.inr ⟨M.length,0,by omega,rfl,by simp⟩⟩
   ·unfold Xg bB aM at*;clear hL1 sA sB hk4 h0 h4 e1 ed Tt ew;generalize LK .i64 to=es,LK .i64 ps=l9,ah.map (Ar.d e)=x3 at*;have i1:=idx ef;have i2:=idx et;have i3:=idx h4';have i4:=idx hB';have j1:f<es.length:=(aT ef)
    have j2:t<es.length:=(aT et)
    have g4:∀ X,(M++X)[4]?=_:=fun X=>(List.getElem?_append_left Nf).trans h4'
    have i5:=fun X=>idx (g4 X)
    simp -implicitDefEqProofs[Ng,f1030,f0,t0,ef,et,i1,i2,i3,i4,i5,j1,j2,h4',hB',g4,Nf,cBl,m1,m2]
   ·rw[List.getElem?_append_left (by simp;omega),List.getElem?_set_ne (by omega)]
   ·rw[List.getElem?_append_left (by simpa using Nf)];exact List.getElem?_set_self Nf
  ·have hil:i<M.length:=(aT h7)
   refine⟨.ls (.loc i) (av+1) 11 0 (aq.length+1),(M.set i (.row (av+1) 11 (aq++[.a [.v (.int .i64 kf),.v (.int .i64 a.l),.v (.int .i64 kt),.v (.bool s),.s 1 l1,.s 1 l2,.v (.int .i64 c),.v (.bool b),.v (.int .u64 u'),.s 6 q,.s 8 ps']]))).set 4 (bB kk ps sy st n (.ls (.loc i) (av+1) 11 0 (aq.length+1))),Ex.of (n:=200) ?_,fun i' hi => ?_,?_,.inr ⟨i,av+1,h5,by simp,?_⟩⟩
   ·unfold Xg bB aM at*;clear hL1 sA sB hk4 h0 h4 e1 ed Tt ew;generalize LK .i64 to=es,LK .i64 ps=l9,ah.map (Ar.d e)=x3 at*;have i1:=idx ef;have i2:=idx et;have i3:=idx h4';have i4:=idx hB';have i6:=idx h7;have j1:f<es.length:=(aT ef)
    have j2:t<es.length:=(aT et)
    have hne:i≠4:=by omega
    have s4:∀ r,(M.set i r)[4]?=_:=fun r=>(List.getElem?_set_ne hne).trans h4'
    have i5:∀ r (h:4<(M.set i r).length),(M.set i r)[4]=_:=fun r h=>idx (s4 r) h
    simp -implicitDefEqProofs[Ng,f1030,f0,t0,ef,et,i1,i2,i3,i4,i5,i6,j1,j2,h4',hB',h7,s4,Nf,cBl,hil,m3,m4]
   ·rw[List.getElem?_set_ne (by omega),List.getElem?_set_ne (by omega)]
   ·exact List.getElem?_set_self (by simpa using Nf)
   ·rw[List.getElem?_set_ne (by omega)];exact List.getElem?_set_self hil
 obtain⟨qX,M',q1,q2,q3,q4⟩:=sC;have sD:Ex E1 Ng.r.r (Xg to (ah.map (Ar.d e)) M' j .u .u) (.norm,C8 to (ah.map (Ar.d e)) M' (j+1) .u):=by
  refine Ex.of (n:=60) ?_;unfold C8 Xg;rw[hk1];generalize LK .i64 to=es,ah.map (Ar.d e)=x3 at*;simp -implicitDefEqProofs[Ng,f1030,aR]
 exact⟨qX,M',sA.seq (Ex.seq (Ex.d9 (sB.seq q1)) sD),fun i hi=>(q2 i hi).trans (hk4 i hi),q3,q4⟩
end
section
variable {α:Type} {e:α->W}
def fP:W:=.mk false [] [] 0 false 0 [] []
def Ar.via (to:List Int)(a:Ar α):Ar α:=a.to (to.getD a.f.toNat 0) (to.getD a.t.toNat 0)
theorem fold_map {β γ:Type}(g:β->γ):∀ (l:List β) (p:List γ),l.foldl (fun aq a=>aq++[g a]) p=p++l.map g
 | [],p=>by simp
 | x::l,p=>by rw[List.foldl_cons,fold_map g l,List.map_cons,List.append_assoc];rfl
theorem wS {to:List Int}{n:Nat}(h:gH to n=true){x:Int}(hx:0<=x/\x<n):∃ f k:Nat,x=(f:Int)/\to[f]?=some (k:Int)/\to.getD x.toNat 0=(k:Int)/\k<n:=by
 obtain⟨h1,h2,_⟩:=jY h;have hf:x.toNat<to.length:=by omega
 have:=h2 _ (List.getElem_mem hf);refine⟨x.toNat,(to[x.toNat]).toNat,by omega,?_,?_,by omega⟩
 ·rw[List.getElem?_eq_getElem hf];congr 1;omega
 ·rw[List.getD_eq_getElem?_getD,List.getElem?_eq_getElem hf];simp only[Option.getD_some];omega
theorem u6 {z:W}{n:Nat}{to:List Int}{xs:List W}{j k:Nat}(hk:k<n):∃ w:W,((bn z n to xs j).map W.d)[k]?=some w.d:=by
 have:k<(bn z n to xs j).length:=by rw[dX];exact hk
 exact⟨(bn z n to xs j)[k],by rw[List.getElem?_map,List.getElem?_eq_getElem this];rfl⟩
theorem VV (kk:Int)(ps:List Int)(sy:Int)(n:Nat)(aL fin:List W)(ah:List D)(to:List Int)(hn:n<=1000000)(hp:gH to n=true)(h1:aL.length=n)(h2:fin.length=n) :
  Ex E1 (.loop rnL) (Og to (aM kk ps sy n (aL.map W.d) (fin.map W.d) ah) (bB kk ps sy n n (.d (.n 11))) ((bn fP n to aL 0).map W.d) ((bn fP n to fin 0).map W.d) 0 .u)
   (.exit 0,Og to (aM kk ps sy n (aL.map W.d) (fin.map W.d) ah) (bB kk ps sy n n (.d (.n 11))) ((bn fP n to aL n).map W.d) ((bn fP n to fin n).map W.d) n (.d (.v (.bool false)))):=by
 obtain⟨p1,p2,_⟩:=jY hp;have h:=Ex.kL (E:=E1) (b:=rnL) to (fun _=>true) (fun j=>Og to (aM kk ps sy n (aL.map W.d) (fin.map W.d) ah) (bB kk ps sy n n (.d (.n 11))) ((bn fP n to aL j).map W.d) ((bn fP n to fin j).map W.d) j .u)
  (.exit 0,Og to (aM kk ps sy n (aL.map W.d) (fin.map W.d) ah) (bB kk ps sy n n (.d (.n 11))) ((bn fP n to aL n).map W.d) ((bn fP n to fin n).map W.d) n (.d (.v (.bool false)))) (.ret,(st0 [] [])) (by simp) (by simp)
  (fun j x hx=>by
   have hj:j<to.length:=(aT hx)
   have Tv:=p2 x (List.mem_of_getElem? hx);obtain⟨k,rfl⟩:∃ k:Nat,x=(k:Int):=⟨x.toNat,by omega⟩
   have hkn:k<n:=by omega
   have hv:aL[j]?=some (aL[j]'(by omega)):=List.getElem?_eq_getElem (by omega);have hw:fin[j]?=some (fin[j]'(by omega)):=List.getElem?_eq_getElem (by omega);obtain⟨w1,r1⟩:=u6 (z:=fP) (to:=to) (xs:=aL) (j:=j) hkn;obtain⟨w2,r2⟩:=u6 (z:=fP) (to:=to) (xs:=fin) (j:=j) hkn;rw[if_pos rfl,mV hx hv,mV hx hw,List.map_set,List.map_set];exact RX kk ps sy n aL fin ah to n _ _ (by omega) (by simp[dX]) (by simp[dX]) j k _ _ hx hkn hv hw w1 w2 r1 r2)
  (by
   rw[p1];refine Ex.of (n:=60) ?_;unfold Og aM;rw[p1];generalize LK .i64 to=es,LK .i64 ps=l9,(bn fP n to aL n).map W.d=q1,(bn fP n to fin n).map W.d=q2,aL.map W.d=q3,fin.map W.d=q4 at*;simp -implicitDefEqProofs[rnL,f1029])
 rw[if_pos (by simp)]at h;exact h
theorem VW (kk:Int)(ps:List Int)(sy st:Int)(aL fin:List D)(to:List Int)(n:Nat)(ah:List (Ar α))(h3:ah.length<=100000)(hp:gH to n=true)(hin:∀ a ∈ ah,(0<=a.f/\a.f<n)/\(0<=a.t/\a.t<n))(L:List ae)(h0:L[0]?=some (aM kk ps sy st aL fin (ah.map (Ar.d e))))(h4:L[4]?=some (bB kk ps sy st n (.d (.n 11)))) :
  ∃ px L',Ex E1 (.loop H6) (AP to (ah.map (Ar.d e)) L 0 .u) (.exit 2,AP to (ah.map (Ar.d e)) L' ah.length (.d (.v (.bool false))))/\(∀ i,i<4->L'[i]?=L[i]?)/\L'[4]?=some (bB kk ps sy st n px)/\uZ px L' ((ah.map (Ar.via to)).map (Ar.d e)):=by
 obtain⟨r,h1,px,L',rfl,h2,h5,h6⟩:=Ex.fold (E:=E1) (b:=H6) ah (fun(aq:List D) a=>aq++[(a.via to).d e]) []
  (fun j aq st'=>aq.length=j/\∃ px M,st'=AP to (ah.map (Ar.d e)) M j .u/\(∀ i,i<4->M[i]?=L[i]?)/\M[4]?=some (bB kk ps sy st n px)/\uZ px M aq)
  (fun aq r=>∃ px M,r=(.exit 2,AP to (ah.map (Ar.d e)) M ah.length (.d (.v (.bool false))))/\(∀ i,i<4->M[i]?=L[i]?)/\M[4]?=some (bB kk ps sy st n px)/\uZ px M aq)
  (fun j a st' ha ⟨hlen,px,M,hst,q1,q2,q3⟩=>by
   subst hst;have hj:j<ah.length:=(aT ha)
   obtain⟨⟨a1,a2⟩,a3,a4⟩:=hin a (List.mem_of_getElem? ha);obtain⟨f,kf,f1,f2,f3,_⟩:=wS hp ⟨a1,a2⟩;obtain⟨t,kt,t1,t2,t3,_⟩:=wS hp ⟨a3,a4⟩;obtain⟨qX,M',r1,r2,r3,r4⟩:=RZ kk ps sy st aL fin to n ah (by omega) M px _ (by omega) ((q1 0 (by omega)).trans h0) q2 q3 j f t kf kt a ha f1 t1 f2 t2;refine⟨_,r1,?_,qX,M',rfl,fun i hi=>(r2 i hi).trans (q1 i hi),r3,?_⟩
   ·rw[List.length_append,hlen];rfl
   ·unfold Ar.via;rw[f3,t3];exact r4)
  (fun st' ⟨hlen,px,M,hst,q1,q2,q3⟩=>by
   subst hst;refine⟨(.exit 2,AP to (ah.map (Ar.d e)) M ah.length (.d (.v (.bool false)))),Ex.of (n:=60) ?_,by simp,px,M,rfl,q1,q2,q3⟩;have n3:(ah.map (Ar.d e)).length=ah.length:=by simp
   have hM0:=(q1 0 (by omega)).trans h0;have Ep:0<M.length:=(aT hM0)
   unfold AP aM at*;rw[<-n3];generalize LK .i64 to=es,LK .i64 ps=l9,ah.map (Ar.d e)=x3 at*;have i0:=idx hM0;simp -implicitDefEqProofs[H6,f1029,hM0,i0,Ep])
  (st:=AP to (ah.map (Ar.d e)) L 0 .u) ⟨rfl,.d (.n 11),L,rfl,fun i _=>rfl,h4,.inl ⟨rfl,rfl⟩⟩
 rw[fold_map,List.nil_append]at h6;refine⟨px,L',h1,h2,h5,?_⟩;rw[List.map_map];exact h6
theorem R4 (kk:Int)(ps:List Int)(sy:Int)(n:Nat)(aL fin:List W)(ah:List D)(to:List Int)(hn:n<=1000000)(hp:gH to n=true)(h1:aL.length=n)(h2:fin.length=n) :
  Ex E1 (.loop RY) (yh to (aM kk ps sy n (aL.map W.d) (fin.map W.d) ah) (bB kk ps sy n n (.d (.n 11))) ((bn fP n to aL 0).map W.d) ((bn fP n to fin 0).map W.d) 0 .u)
   (.exit 0,yh to (aM kk ps sy n (aL.map W.d) (fin.map W.d) ah) (bB kk ps sy n n (.d (.n 11))) ((bn fP n to aL n).map W.d) ((bn fP n to fin n).map W.d) n (.d (.v (.bool false)))):=by
 obtain⟨p1,p2,_⟩:=jY hp;have h:=Ex.kL (E:=E1) (b:=RY) to (fun _=>true) (fun j=>yh to (aM kk ps sy n (aL.map W.d) (fin.map W.d) ah) (bB kk ps sy n n (.d (.n 11))) ((bn fP n to aL j).map W.d) ((bn fP n to fin j).map W.d) j .u)
  (.exit 0,yh to (aM kk ps sy n (aL.map W.d) (fin.map W.d) ah) (bB kk ps sy n n (.d (.n 11))) ((bn fP n to aL n).map W.d) ((bn fP n to fin n).map W.d) n (.d (.v (.bool false)))) (.ret,(st0 [] [])) (by simp) (by simp)
  (fun j x hx=>by
   have hj:j<to.length:=(aT hx)
   have Tv:=p2 x (List.mem_of_getElem? hx);obtain⟨k,rfl⟩:∃ k:Nat,x=(k:Int):=⟨x.toNat,by omega⟩
   have hkn:k<n:=by omega
   have hv:aL[j]?=some (aL[j]'(by omega)):=List.getElem?_eq_getElem (by omega);have hw:fin[j]?=some (fin[j]'(by omega)):=List.getElem?_eq_getElem (by omega);obtain⟨w1,r1⟩:=u6 (z:=fP) (to:=to) (xs:=aL) (j:=j) hkn;obtain⟨w2,r2⟩:=u6 (z:=fP) (to:=to) (xs:=fin) (j:=j) hkn;rw[if_pos rfl,mV hx hv,mV hx hw,List.map_set,List.map_set];exact Nc kk ps sy n aL fin ah to n _ _ (by omega) rfl hn (by simp[dX]) (by simp[dX]) j k (by omega) _ _ hx hkn hv hw w1 w2 r1 r2)
  (by
   rw[p1];refine Ex.of (n:=60) ?_;unfold yh aM
   skip
   generalize LK .i64 to=es,LK .i64 ps=l9,(bn fP n to aL n).map W.d=q1,(bn fP n to fin n).map W.d=q2,aL.map W.d=q3,fin.map W.d=q4 at*;simp -implicitDefEqProofs[RY,f1030])
 rw[if_pos (by simp)]at h;exact h
theorem VX (kk:Int)(ps:List Int)(sy st:Int)(aL fin:List D)(to:List Int)(n:Nat)(ah:List (Ar α))(h3:ah.length<=100000)(hp:gH to n=true)(hin:∀ a ∈ ah,(0<=a.f/\a.f<n)/\(0<=a.t/\a.t<n))(L:List ae)(h0:L[0]?=some (aM kk ps sy st aL fin (ah.map (Ar.d e))))(h4:L[4]?=some (bB kk ps sy st n (.d (.n 11)))) :
  ∃ px L',Ex E1 (.loop Ng) (C8 to (ah.map (Ar.d e)) L 0 .u) (.exit 2,C8 to (ah.map (Ar.d e)) L' ah.length (.d (.v (.bool false))))/\(∀ i,i<4->L'[i]?=L[i]?)/\L'[4]?=some (bB kk ps sy st n px)/\uZ px L' ((ah.map (Ar.via to)).map (Ar.d e)):=by
 obtain⟨r,h1,px,L',rfl,h2,h5,h6⟩:=Ex.fold (E:=E1) (b:=Ng) ah (fun(aq:List D) a=>aq++[(a.via to).d e]) []
  (fun j aq st'=>aq.length=j/\∃ px M,st'=C8 to (ah.map (Ar.d e)) M j .u/\(∀ i,i<4->M[i]?=L[i]?)/\M[4]?=some (bB kk ps sy st n px)/\uZ px M aq)
  (fun aq r=>∃ px M,r=(.exit 2,C8 to (ah.map (Ar.d e)) M ah.length (.d (.v (.bool false))))/\(∀ i,i<4->M[i]?=L[i]?)/\M[4]?=some (bB kk ps sy st n px)/\uZ px M aq)
  (fun j a st' ha ⟨hlen,px,M,hst,q1,q2,q3⟩=>by
   subst hst;have hj:j<ah.length:=(aT ha)
   obtain⟨⟨a1,a2⟩,a3,a4⟩:=hin a (List.mem_of_getElem? ha);obtain⟨f,kf,f1,f2,f3,_⟩:=wS hp ⟨a1,a2⟩;obtain⟨t,kt,t1,t2,t3,_⟩:=wS hp ⟨a3,a4⟩;obtain⟨qX,M',r1,r2,r3,r4⟩:=R3 kk ps sy st aL fin to n ah (by omega) M px _ (by omega) ((q1 0 (by omega)).trans h0) q2 q3 j f t kf kt a ha f1 t1 f2 t2;refine⟨_,r1,?_,qX,M',rfl,fun i hi=>(r2 i hi).trans (q1 i hi),r3,?_⟩
   ·rw[List.length_append,hlen];rfl
   ·unfold Ar.via;rw[f3,t3];exact r4)
  (fun st' ⟨hlen,px,M,hst,q1,q2,q3⟩=>by
   subst hst;refine⟨(.exit 2,C8 to (ah.map (Ar.d e)) M ah.length (.d (.v (.bool false)))),Ex.of (n:=60) ?_,by simp,px,M,rfl,q1,q2,q3⟩;have n3:(ah.map (Ar.d e)).length=ah.length:=by simp
   have hM0:=(q1 0 (by omega)).trans h0;have Ep:0<M.length:=(aT hM0)
   unfold C8 aM at*;rw[<-n3];generalize LK .i64 to=es,LK .i64 ps=l9,ah.map (Ar.d e)=x3 at*;have i0:=idx hM0;simp -implicitDefEqProofs[Ng,f1030,hM0,i0,Ep])
  (st:=C8 to (ah.map (Ar.d e)) L 0 .u) ⟨rfl,.d (.n 11),L,rfl,fun i _=>rfl,h4,.inl ⟨rfl,rfl⟩⟩
 rw[fold_map,List.nil_append]at h6;refine⟨px,L',h1,h2,h5,?_⟩;rw[List.map_map];exact h6
end
section
variable {α:Type} {e:α->W}
theorem five {L:List ae}{a b c d f:ae}(h0:L[0]?=some a)(h1:L[1]?=some b)(h2:L[2]?=some c)(h3:L[3]?=some d)(h4:L[4]?=some f):∃ T,L=a::b::c::d::f::T:=by
 match L,h0,h1,h2,h3,h4 with
 | a'::b'::c'::d'::f'::T,h0,h1,h2,h3,h4 =>
  simp at h0 h1 h2 h3 h4;subst h0 h1 h2 h3 h4;exact⟨T,rfl⟩
 | [],h0,_,_,_,_=>simp at h0
 | [_],_,h1,_,_,_=>simp at h1
 | [_,_],_,_,h2,_,_=>simp at h2
 | [_,_,_],_,_,_,h3,_=>simp at h3
 | [_,_,_,_],_,_,_,_,h4=>simp at h4
theorem ZG (kk:Int)(ps:List Int)(sy:Int)(n:Nat)(aL fin:List W)(ah:List (Ar α))(to:List Int)(hn:n<=64)(h1:aL.length=n)(h2:fin.length=n)(h3:ah.length<=100000)(hp:gH to n=true)(hin:∀ a ∈ ah,(0<=a.f/\a.f<n)/\(0<=a.t/\a.t<n))
  (hv:Ca E1 1026 [.d (kX kk ps sy n aL fin e ah)] (.d (.v (.bool true)),none)) (hperm:Ca E1 1076 [.d (.s 1 (LK .i64 to)),.d (.v (.int .i64 (n:Int)))] (.d (.v (.bool true)),none)) (A:D) (hA:∃ a b c d f g h,A=q9 a b c d f g h)
  (hN:Ca E1 1024 [.d (kX kk ps sy n (bn fP n to aL n) (bn fP n to fin n) e (ah.map (Ar.via to)))] (.d (.t [A,.v (.int .i64 0)]),none)) :
  Ca E1 1029 [.d (kX kk ps sy n aL fin e ah),.d (.s 1 (LK .i64 to))] (.d (.t [A,.v (.int .i64 0)]),none):=by
 obtain⟨p1,p2,_⟩:=jY hp;obtain⟨N1,t1⟩:=hv.any;obtain⟨N2,t2⟩:=hperm.any;obtain⟨N3,t3⟩:=hN.any;obtain⟨K,hK⟩:∃ K,K=N1+N2+N3:=⟨_,rfl⟩
 replace t1:=t1 K (by omega);replace t2:=t2 K (by omega);replace t3:=t3 K (by omega);have gI:=VV kk ps sy n aL fin (ah.map (Ar.d e)) to (by omega) hp h1 h2;obtain⟨bx,hbx⟩:∃ bx,bx=aM kk ps sy n (aL.map W.d) (fin.map W.d) (ah.map (Ar.d e)):=⟨_,rfl⟩
 obtain⟨px,L,iI,k0,k4,ko⟩:=VW (e:=e) kk ps sy n (aL.map W.d) (fin.map W.d) to n ah h3 hp hin [bx,dF,.row 0 8 ((bn fP n to aL n).map W.d),.row 0 8 ((bn fP n to fin n).map W.d),bB kk ps sy n n (.d (.n 11))] (by rw[hbx];rfl) rfl;rw[<-hbx]at gI;have sA:Ex E1 f1029.body.l (st0 [.d (kX kk ps sy n aL fin e ah),.d (.s 1 (LK .i64 to)),.u,.u,.u,.u,.u,.u,.u,.u,.u,.u,.u,.u,.u,.u,.u,.u,.u] []) (.norm,(st0 [.u,.d (.s 1 (LK .i64 to)),.r (.loc 0) 0,.r (.loc 1) 0,.u,.u,.u,.u,.u,.u,.u,.u,.u,.u,.u,.u,.u,.u,.u] [bx,dF])):=by
  refine Ex.of (n:=60) ?_;rw[hbx];unfold kX q9 aM dF;simp -implicitDefEqProofs[f1029]
 have sV:Ex E1 f1029.body.r.l (st0 [.u,.d (.s 1 (LK .i64 to)),.r (.loc 0) 0,.r (.loc 1) 0,.u,.u,.u,.u,.u,.u,.u,.u,.u,.u,.u,.u,.u,.u,.u] [bx,dF]) (.norm,(st0 [.u,.d (.s 1 (LK .i64 to)),.r (.loc 0) 0,.r (.loc 1) 0,.u,.u,.u,.u,.u,.d (.v (.bool false)),.u,.u,.u,.u,.u,.u,.u,.u,.u] [bx,dF])):=by
  refine Ex.of (n:=K+60) ?_;clear gI iI t2 t3 sA;rw[hbx];unfold kX q9 aM at*;generalize LK .i64 to=es,LK .i64 ps=l9,ah.map (Ar.d e)=x3,aL.map W.d=x1,fin.map W.d=x2 at*;simp -implicitDefEqProofs[f1029,t1]
 have sP:Ex E1 f1029.body.r.r.l (st0 [.u,.d (.s 1 (LK .i64 to)),.r (.loc 0) 0,.r (.loc 1) 0,.u,.u,.u,.u,.u,.d (.v (.bool false)),.u,.u,.u,.u,.u,.u,.u,.u,.u] [bx,dF]) (.norm,(st0 [.u,.d (.s 1 (LK .i64 to)),.r (.loc 0) 0,.r (.loc 1) 0,.u,.u,.u,.u,.u,.u,.d (.v (.bool false)),.u,.u,.u,.u,.u,.u,.u,.u] [bx,dF])):=by
  refine Ex.of (n:=K+60) ?_;clear gI iI t1 t3 sA sV;rw[hbx];unfold aM at*;generalize LK .i64 to=es,LK .i64 ps=l9,ah.map (Ar.d e)=x3,aL.map W.d=x1,fin.map W.d=x2 at*;simp -implicitDefEqProofs[f1029,t2]
 have hz:∀ xs:List W,(bn fP n to xs 0).map W.d=List.replicate n (.a [.v (.bool false),.s 1 [],.s 1 [],.v (.int .i64 0),.v (.bool false),.v (.int .u64 0),.s 6 [],.s 8 []]):=fun xs=>by
  rw[RU,List.map_replicate];rfl
 have hn0:(0:Int)<=(n:Int):=by omega
 have hm1:(n:Int)*128<=(most:Int):=by unfold most;omega
 have hm2:(n:Int)<=(most:Int):=by unfold most;omega
 have sM:Ex E1 f1029.body.r.r.r.l (st0 [.u,.d (.s 1 (LK .i64 to)),.r (.loc 0) 0,.r (.loc 1) 0,.u,.u,.u,.u,.u,.u,.d (.v (.bool false)),.u,.u,.u,.u,.u,.u,.u,.u] [bx,dF]) (.norm,(st0 [.u,.d (.s 1 (LK .i64 to)),.r (.loc 0) 0,.r (.loc 1) 0,.u,.r (.loc 4) 0,.u,.u,.u,.u,.u,.u,.u,.u,.u,.u,.u,.u,.u] [bx,dF,.row 0 8 ((bn fP n to aL 0).map W.d),.row 0 8 ((bn fP n to fin 0).map W.d),bB kk ps sy n n (.d (.n 11))])):=by
  refine Ex.of (n:=60) ?_;clear gI iI t1 t2 t3 sA sV sP;rw[hz,hz,hbx];unfold aM bB dF at*;generalize LK .i64 to=es,LK .i64 ps=l9,ah.map (Ar.d e)=x3,aL.map W.d=x1,fin.map W.d=x2 at*;simp -implicitDefEqProofs[f1029,hn0,hm1,hm2]
 have sI:Ex E1 f1029.body.r.r.r.r.l.l (st0 [.u,.d (.s 1 (LK .i64 to)),.r (.loc 0) 0,.r (.loc 1) 0,.u,.r (.loc 4) 0,.u,.u,.u,.u,.u,.u,.u,.u,.u,.u,.u,.u,.u] [bx,dF,.row 0 8 ((bn fP n to aL 0).map W.d),.row 0 8 ((bn fP n to fin 0).map W.d),bB kk ps sy n n (.d (.n 11))]) (.norm,Og to bx (bB kk ps sy n n (.d (.n 11))) ((bn fP n to aL 0).map W.d) ((bn fP n to fin 0).map W.d) 0 .u):=by
  refine Ex.of (n:=60) ?_;have nk:(LK .i64 to).length=to.length:=by simp[LK]
  clear gI iI t1 t2 t3 sA sV sP sM hbx;unfold Og;generalize (bn fP n to aL 0).map W.d=q1,(bn fP n to fin 0).map W.d=q2,bB kk ps sy n n (.d (.n 11))=q3 at*;rw[<-nk];generalize LK .i64 to=es at*;simp -implicitDefEqProofs[f1029]
 have sJ:Ex E1 f1029.body.r.r.r.r.r.l.l (Og to bx (bB kk ps sy n n (.d (.n 11))) ((bn fP n to aL n).map W.d) ((bn fP n to fin n).map W.d) n (.d (.v (.bool false)))) (.norm,AP to (ah.map (Ar.d e)) [bx,dF,.row 0 8 ((bn fP n to aL n).map W.d),.row 0 8 ((bn fP n to fin n).map W.d),bB kk ps sy n n (.d (.n 11))] 0 .u):=by
  refine Ex.of (n:=60) ?_;clear gI iI t1 t2 t3 sA sV sP sM sI;rw[hbx];unfold Og AP aM;generalize (bn fP n to aL n).map W.d=q1,(bn fP n to fin n).map W.d=q2,bB kk ps sy n n (.d (.n 11))=q3,LK .i64 to=es,LK .i64 ps=l9,ah.map (Ar.d e)=x3,aL.map W.d=x1,fin.map W.d=x2 at*;simp -implicitDefEqProofs[f1029]
 obtain⟨T,rfl⟩:=five ((k0 0 (by omega)).trans rfl) ((k0 1 (by omega)).trans rfl) ((k0 2 (by omega)).trans rfl) ((k0 3 (by omega)).trans rfl) k4;have sE:∃ st',Ex E1 f1029.body.r.r.r.r.r.r (AP to (ah.map (Ar.d e)) (bx::dF::.row 0 8 ((bn fP n to aL n).map W.d)::.row 0 8 ((bn fP n to fin n).map W.d)::bB kk ps sy n n px::T) ah.length (.d (.v (.bool false)))) (.ret,st')/\finish f1029 st'=some (.d (.t [A,.v (.int .i64 0)]),none):=by
  have la:((bn fP n to aL n).map W.d).length=n:=by simp[dX]
  have lb:((bn fP n to fin n).map W.d).length=n:=by simp[dX]
  have lc:((ah.map (Ar.via to)).map (Ar.d e)).length=ah.length:=by simp
  clear gI iI t1 t2 sA sV sP sM sI sJ hz k0 k4 hbx hN hperm hv hin;obtain⟨qa,qb,qc,qd,qf,qg,qh,rfl⟩:=hA;unfold AP bB kX q9 dF at*;generalize (bn fP n to aL n).map W.d=q1,(bn fP n to fin n).map W.d=q2,(ah.map (Ar.via to)).map (Ar.d e)=q3,ah.map (Ar.d e)=x3,LK .i64 to=es,LK .i64 ps=l9,LK .i64 qb=l8 at*;have ta:q1.take n=q1:=by rw[<-la,List.take_length]
  have tb:q2.take n=q2:=by rw[<-lb,List.take_length]
  rcases ko with ⟨rfl,rfl⟩|⟨i,av,h5,rfl,h7⟩
  ·refine⟨_,Ex.of (n:=K+200) (by simp -implicitDefEqProofs[f1029,t3,la,lb,ta,tb,ae.view,mF];rfl),?_⟩;simp[finish,mF,show f1029.res=[.cell 3 true 7,.var 4] from rfl,show f1029.ref=false from rfl]
  ·obtain⟨i',rfl⟩:∃ i',i=i'+5:=⟨i-5,by omega⟩
   simp only[List.getElem?_cons_succ]at h7;have il:i'<T.length:=(aT h7)
   have i7:=idx h7;refine⟨_,Ex.of (n:=K+200) (by simp -implicitDefEqProofs[f1029,t3,la,lb,ta,tb,h7,i7,il,ae.view,mF];rfl),?_⟩;simp[finish,mF,show f1029.res=[.cell 3 true 7,.var 4] from rfl,show f1029.ref=false from rfl]
 obtain⟨st',e1,e2⟩:=sE;exact Ca.body (o:=.ret) rfl (k1029:E1.fn _=_) rfl (sA.seq (sV.seq (sP.seq (sM.seq (Ex.seq (sI.seq (Ex.block gI)) (Ex.seq (sJ.seq (Ex.block iI)) e1)))))) (by simp) e2
theorem VY (kk:Int)(ps:List Int)(sy:Int)(n:Nat)(aL fin:List W)(ah:List (Ar α))(to:List Int)(hn:n<=64)(h1:aL.length=n)(h2:fin.length=n)(h3:ah.length<=100000)(hp:gH to n=true)(hin:∀ a ∈ ah,(0<=a.f/\a.f<n)/\(0<=a.t/\a.t<n))
  (hv:Ca E1 1020 [.d (kX kk ps sy n aL fin e ah)] (.d (.v (.bool true)),none)) (hperm:Ca E1 1077 [.d (.s 1 (LK .i64 to)),.d (.v (.int .i64 (n:Int)))] (.d (.v (.bool true)),none)) (A:D) (hA:∃ a b c d f g h,A=q9 a b c d f g h)
  (hN:Ca E1 1044 [.d (kX kk ps sy n (bn fP n to aL n) (bn fP n to fin n) e (ah.map (Ar.via to)))] (.d A,none)) :
  Ca E1 1030 [.d (kX kk ps sy n aL fin e ah),.d (.s 1 (LK .i64 to))] (.d (.t [A,.v (.int .i64 0)]),none):=by
 obtain⟨p1,p2,_⟩:=jY hp;obtain⟨N1,t1⟩:=hv.any;obtain⟨N2,t2⟩:=hperm.any;obtain⟨N3,t3⟩:=hN.any;obtain⟨K,hK⟩:∃ K,K=N1+N2+N3:=⟨_,rfl⟩
 replace t1:=t1 K (by omega);replace t2:=t2 K (by omega);replace t3:=t3 K (by omega);have gI:=R4 kk ps sy n aL fin (ah.map (Ar.d e)) to (by omega) hp h1 h2;obtain⟨bx,hbx⟩:∃ bx,bx=aM kk ps sy n (aL.map W.d) (fin.map W.d) (ah.map (Ar.d e)):=⟨_,rfl⟩
 obtain⟨px,L,iI,k0,k4,ko⟩:=VX (e:=e) kk ps sy n (aL.map W.d) (fin.map W.d) to n ah h3 hp hin [bx,dF,.row 0 8 ((bn fP n to aL n).map W.d),.row 0 8 ((bn fP n to fin n).map W.d),bB kk ps sy n n (.d (.n 11))] (by rw[hbx];rfl) rfl;rw[<-hbx]at gI;have sA:Ex E1 f1030.body.l (st0 [.d (kX kk ps sy n aL fin e ah),.d (.s 1 (LK .i64 to)),.u,.u,.u,.u,.u,.u,.u,.u,.u,.u,.u] []) (.norm,(st0 [.u,.d (.s 1 (LK .i64 to)),.r (.loc 0) 0,.r (.loc 1) 0,.u,.u,.u,.u,.u,.u,.u,.u,.u] [bx,dF])):=by
  refine Ex.of (n:=60) ?_;rw[hbx];unfold kX q9 aM dF;simp -implicitDefEqProofs[f1030]
 have sV:Ex E1 f1030.body.r.l (st0 [.u,.d (.s 1 (LK .i64 to)),.r (.loc 0) 0,.r (.loc 1) 0,.u,.u,.u,.u,.u,.u,.u,.u,.u] [bx,dF]) (.norm,(st0 [.u,.d (.s 1 (LK .i64 to)),.r (.loc 0) 0,.r (.loc 1) 0,.u,.u,.u,.u,.u,.d (.v (.bool false)),.u,.u,.u] [bx,dF])):=by
  refine Ex.of (n:=K+60) ?_;clear gI iI t2 t3 sA;rw[hbx];unfold kX q9 aM at*;generalize LK .i64 to=es,LK .i64 ps=l9,ah.map (Ar.d e)=x3,aL.map W.d=x1,fin.map W.d=x2 at*;simp -implicitDefEqProofs[f1030,t1]
 have sP:Ex E1 f1030.body.r.r.l (st0 [.u,.d (.s 1 (LK .i64 to)),.r (.loc 0) 0,.r (.loc 1) 0,.u,.u,.u,.u,.u,.d (.v (.bool false)),.u,.u,.u] [bx,dF]) (.norm,(st0 [.u,.d (.s 1 (LK .i64 to)),.r (.loc 0) 0,.r (.loc 1) 0,.u,.u,.u,.u,.u,.u,.d (.v (.bool false)),.u,.u] [bx,dF])):=by
  refine Ex.of (n:=K+60) ?_;clear gI iI t1 t3 sA sV;rw[hbx];unfold aM at*;generalize LK .i64 to=es,LK .i64 ps=l9,ah.map (Ar.d e)=x3,aL.map W.d=x1,fin.map W.d=x2 at*;simp -implicitDefEqProofs[f1030,t2]
 have hz:∀ xs:List W,(bn fP n to xs 0).map W.d=List.replicate n (.a [.v (.bool false),.s 1 [],.s 1 [],.v (.int .i64 0),.v (.bool false),.v (.int .u64 0),.s 6 [],.s 8 []]):=fun xs=>by
  rw[RU,List.map_replicate];rfl
 have hn0:(0:Int)<=(n:Int):=by omega
 have hm1:(n:Int)*128<=(most:Int):=by unfold most;omega
 have hm2:(n:Int)<=(most:Int):=by unfold most;omega
 have sM:Ex E1 f1030.body.r.r.r.l (st0 [.u,.d (.s 1 (LK .i64 to)),.r (.loc 0) 0,.r (.loc 1) 0,.u,.u,.u,.u,.u,.u,.d (.v (.bool false)),.u,.u] [bx,dF]) (.norm,(st0 [.u,.d (.s 1 (LK .i64 to)),.r (.loc 0) 0,.r (.loc 1) 0,.u,.r (.loc 4) 0,.u,.u,.u,.u,.u,.u,.u] [bx,dF,.row 0 8 ((bn fP n to aL 0).map W.d),.row 0 8 ((bn fP n to fin 0).map W.d),bB kk ps sy n n (.d (.n 11))])):=by
  refine Ex.of (n:=60) ?_;clear gI iI t1 t2 t3 sA sV sP;rw[hz,hz,hbx];unfold aM bB dF at*;generalize LK .i64 to=es,LK .i64 ps=l9,ah.map (Ar.d e)=x3,aL.map W.d=x1,fin.map W.d=x2 at*;simp -implicitDefEqProofs[f1030,hn0,hm1,hm2]
 have sI:Ex E1 f1030.body.r.r.r.r.l.l (st0 [.u,.d (.s 1 (LK .i64 to)),.r (.loc 0) 0,.r (.loc 1) 0,.u,.r (.loc 4) 0,.u,.u,.u,.u,.u,.u,.u] [bx,dF,.row 0 8 ((bn fP n to aL 0).map W.d),.row 0 8 ((bn fP n to fin 0).map W.d),bB kk ps sy n n (.d (.n 11))]) (.norm,yh to bx (bB kk ps sy n n (.d (.n 11))) ((bn fP n to aL 0).map W.d) ((bn fP n to fin 0).map W.d) 0 .u):=by
  refine Ex.of (n:=60) ?_;have nk:(LK .i64 to).length=to.length:=by simp[LK]
  clear gI iI t1 t2 t3 sA sV sP sM hbx;unfold yh;generalize (bn fP n to aL 0).map W.d=q1,(bn fP n to fin 0).map W.d=q2,bB kk ps sy n n (.d (.n 11))=q3 at*
  skip
  generalize LK .i64 to=es at*;simp -implicitDefEqProofs[f1030]
 have sJ:Ex E1 f1030.body.r.r.r.r.r.l.l (yh to bx (bB kk ps sy n n (.d (.n 11))) ((bn fP n to aL n).map W.d) ((bn fP n to fin n).map W.d) n (.d (.v (.bool false)))) (.norm,C8 to (ah.map (Ar.d e)) [bx,dF,.row 0 8 ((bn fP n to aL n).map W.d),.row 0 8 ((bn fP n to fin n).map W.d),bB kk ps sy n n (.d (.n 11))] 0 .u):=by
  refine Ex.of (n:=60) ?_;clear gI iI t1 t2 t3 sA sV sP sM sI;rw[hbx];unfold yh C8 aM;generalize (bn fP n to aL n).map W.d=q1,(bn fP n to fin n).map W.d=q2,bB kk ps sy n n (.d (.n 11))=q3,LK .i64 to=es,LK .i64 ps=l9,ah.map (Ar.d e)=x3,aL.map W.d=x1,fin.map W.d=x2 at*;simp -implicitDefEqProofs[f1030]
 obtain⟨T,rfl⟩:=five ((k0 0 (by omega)).trans rfl) ((k0 1 (by omega)).trans rfl) ((k0 2 (by omega)).trans rfl) ((k0 3 (by omega)).trans rfl) k4;have sE:∃ st',Ex E1 f1030.body.r.r.r.r.r.r (C8 to (ah.map (Ar.d e)) (bx::dF::.row 0 8 ((bn fP n to aL n).map W.d)::.row 0 8 ((bn fP n to fin n).map W.d)::bB kk ps sy n n px::T) ah.length (.d (.v (.bool false)))) (.ret,st')/\finish f1030 st'=some (.d (.t [A,.v (.int .i64 0)]),none):=by
  have la:((bn fP n to aL n).map W.d).length=n:=by simp[dX]
  have lb:((bn fP n to fin n).map W.d).length=n:=by simp[dX]
  have lc:((ah.map (Ar.via to)).map (Ar.d e)).length=ah.length:=by simp
  clear gI iI t1 t2 sA sV sP sM sI sJ hz k0 k4 hbx hN hperm hv hin;obtain⟨qa,qb,qc,qd,qf,qg,qh,rfl⟩:=hA;unfold C8 bB kX q9 dF at*;generalize (bn fP n to aL n).map W.d=q1,(bn fP n to fin n).map W.d=q2,(ah.map (Ar.via to)).map (Ar.d e)=q3,ah.map (Ar.d e)=x3,LK .i64 to=es,LK .i64 ps=l9,LK .i64 qb=l8 at*;have ta:q1.take n=q1:=by rw[<-la,List.take_length]
  have tb:q2.take n=q2:=by rw[<-lb,List.take_length]
  rcases ko with ⟨rfl,rfl⟩|⟨i,av,h5,rfl,h7⟩
  ·refine⟨_,Ex.of (n:=K+200) (by simp -implicitDefEqProofs[f1030,t3,la,lb,ta,tb,ae.view,mF];rfl),?_⟩;simp[finish,mF,show f1030.res=[.cell 3 true 7,.var 4] from rfl,show f1030.ref=false from rfl]
  ·obtain⟨i',rfl⟩:∃ i',i=i'+5:=⟨i-5,by omega⟩
   simp only[List.getElem?_cons_succ]at h7;have il:i'<T.length:=(aT h7)
   have i7:=idx h7;refine⟨_,Ex.of (n:=K+200) (by simp -implicitDefEqProofs[f1030,t3,la,lb,ta,tb,h7,i7,il,ae.view,mF];rfl),?_⟩;simp[finish,mF,show f1030.res=[.cell 3 true 7,.var 4] from rfl,show f1030.ref=false from rfl]
 obtain⟨st',e1,e2⟩:=sE;exact Ca.body (o:=.ret) rfl (k1030:E1.fn _=_) rfl (sA.seq (sV.seq (sP.seq (sM.seq (Ex.seq (sI.seq (Ex.block gI)) (Ex.seq (sJ.seq (Ex.block iI)) e1)))))) (by simp) e2
end
end Fi.S
noncomputable section
namespace Fi.S
open Go Fi
set_option maxHeartbeats 8000000
set_option maxRecDepth 10000
theorem KY (kk:Int)(ps:List Int)(sy st:Int)(aL fin ah es:List D):(Ca E1 1026 [.d (q9 kk ps sy st aL fin ah)] (.d (.v (.bool false)),none)->Ca E1 1029 [.d (q9 kk ps sy st aL fin ah),.d (.s 1 es)] (.d (.t [Rw,.v (.int .i64 4)]),none)) /\
  (Ca E1 1020 [.d (q9 kk ps sy st aL fin ah)] (.d (.v (.bool false)),none)->Ca E1 1030 [.d (q9 kk ps sy st aL fin ah),.d (.s 1 es)] (.d (.t [Rw,.v (.int .i64 4)]),none)):=by
 unfold Rw q9;rw[show LK .i64 []=[] from rfl];generalize LK .i64 ps=l9;refine⟨fun h => ?_,fun h => ?_⟩
 ·obtain⟨N,t⟩:=h.get;refine Ca.bO (n:=N+200) ?_;rw[aA rfl (k1029:E1.fn _=_) rfl];simp -implicitDefEqProofs[f1029,t,mF]
 ·obtain⟨N,t⟩:=h.get;refine Ca.bO (n:=N+200) ?_;rw[aA rfl (k1030:E1.fn _=_) rfl];simp -implicitDefEqProofs[f1030,t,mF]
theorem R5 (kk:Int)(ps:List Int)(sy st:Int)(aL fin ah es:List D):(Ca E1 1026 [.d (q9 kk ps sy st aL fin ah)] (.d (.v (.bool true)),none)->Ca E1 1076 [.d (.s 1 es),.d (.v (.int .i64 st))] (.d (.v (.bool false)),none)->Ca E1 1029 [.d (q9 kk ps sy st aL fin ah),.d (.s 1 es)] (.d (.t [Rw,.v (.int .i64 1)]),none)) /\
  (Ca E1 1020 [.d (q9 kk ps sy st aL fin ah)] (.d (.v (.bool true)),none)->Ca E1 1077 [.d (.s 1 es),.d (.v (.int .i64 st))] (.d (.v (.bool false)),none)->Ca E1 1030 [.d (q9 kk ps sy st aL fin ah),.d (.s 1 es)] (.d (.t [Rw,.v (.int .i64 1)]),none)):=by
 unfold Rw q9;rw[show LK .i64 []=[] from rfl];generalize LK .i64 ps=l9;refine⟨fun h h2 => ?_,fun h h2 => ?_⟩
 ·obtain⟨N,t⟩:=h.any;obtain⟨M,u⟩:=h2.any;replace t:=t (N+M) (by omega);replace u:=u (N+M) (by omega);generalize N+M=K at*;refine Ca.bO (n:=K+200) ?_;rw[aA rfl (k1029:E1.fn _=_) rfl];simp -implicitDefEqProofs[f1029,t,u,mF]
 ·obtain⟨N,t⟩:=h.any;obtain⟨M,u⟩:=h2.any;replace t:=t (N+M) (by omega);replace u:=u (N+M) (by omega);generalize N+M=K at*;refine Ca.bO (n:=K+200) ?_;rw[aA rfl (k1030:E1.fn _=_) rfl];simp -implicitDefEqProofs[f1030,t,u,mF]
theorem ZH (kk:Int):h_ kk []=fP:=by
 have h1:qs 0=false:=by decide
 have h2:qn 0=[]:=bW;have h3:qd 0=[]:=if_pos rfl;unfold h_
 by_cases h6:kk=6
 ·rw[if_pos h6];rfl
 ·rw[if_neg h6];simp only[List.headD_nil,Sv.w,h1,h2,h3];rfl
theorem BK {a:Au}(ha:a.Lit)(to:List Int)(hto:to.length<=1000000):∃ (A:D) (er:Int),(∃ a b c d f g h,A=q9 a b c d f g h)/\Ca E1 1029 [.d a.d,.d (.s 1 (LK .i64 to))] (.d (.t [A,.v (.int .i64 er)]),none)/\Ca E1 1030 [.d a.d,.d (.s 1 (LK .i64 to))] (.d (.t [A,.v (.int .i64 er)]),none)/\Ca E1 1014 [.d A,.d A] (.d (.v (.bool true)),none):=by
 have sZ:Ca E1 1014 [.d Rw,.d Rw] (.d (.v (.bool true)),none):=by
  rw[ach (h_ 1)];exact GJ 0 [] 0 0 [] [] ([]:List (Ar (List Sv))) (by simp) (by simp) (by simp) (by simp) (by simp) (by simp) (by simp)
 obtain⟨v1,v2⟩:=ha.uR;cases hv:a.valid with
 | false =>
  rw[hv]at v1 v2;exact⟨Rw,4,⟨_,_,_,_,_,_,_,rfl⟩,(KY _ _ _ _ _ _ _ _).1 v1,(KY _ _ _ _ _ _ _ _).2 v2,sZ⟩
 | true =>
  rw[hv]at v1 v2;have hp:=ha.ps;have h16:=ha.ah.1;have hin:=ha.aL.1;have hfi:=ha.fin.1;unfold Au.valid En GD at hv;simp only[Bool.and_eq_true,decide_eq_true_eq,List.all_eq_true]at hv;obtain⟨⟨hr,hs1,hs2,hs3,hs4,hs5,hs6,hs7⟩,hc3,hc1,hc2⟩:=hv;obtain⟨n,hn⟩:∃ n:Nat,a.st=(n:Int):=⟨a.st.toNat,by omega⟩
  have q1:=VS to n hto (by omega);have q2:=RS to n hto (by omega);cases hpm:gH to n with
  | false =>
   rw[hpm,<-hn]at q1 q2;exact⟨Rw,1,⟨_,_,_,_,_,_,_,rfl⟩,(R5 _ _ _ _ _ _ _ _).1 v1 q1,(R5 _ _ _ _ _ _ _ _).2 v2 q2,sZ⟩
  | true =>
   rw[hpm]at q1 q2;obtain⟨xs,e1,g1⟩:=Ew hr a.aL (fun w hw=>⟨(ha.aL.2 w hw).1,(ha.aL.2 w hw).2,hc1 w hw⟩);obtain⟨ys,e2,g2⟩:=Ew hr a.fin (fun w hw=>⟨(ha.fin.2 w hw).1,(ha.fin.2 w hw).2,hc2 w hw⟩);have acE:∀ x ∈ a.ah,rO x.f a.st=true/\rO x.t a.st=true/\0<=x.l/\x.l<=a.sy/\bM a.kk a.ps x.x=true:=by
    intro x hx;have:=hc3 x hx;unfold nR at this;simp only[Bool.and_eq_true,decide_eq_true_eq]at this;exact⟨this.1,this.2.1,this.2.2.1,this.2.2.2.1,this.2.2.2.2⟩
   obtain⟨zs,e3,hz,g3⟩:=KV hr a.ah (fun x hx=>⟨(ha.ah.2 x hx).1,(ha.ah.2 x hx).2,(acE x hx).2.2.2.2⟩);have hzr:∀ z ∈ zs,((0<=z.f/\z.f<n)/\(0<=z.t/\z.t<n))/\0<=z.l/\z.l<=a.sy:=by
    intro z hzm;obtain⟨i,hi⟩:=List.mem_iff_getElem?.1 hzm;have hil:=(aT hi)
    have hai:a.ah[i]?=some (a.ah[i]'(by omega)):=List.getElem?_eq_getElem (by omega);have hm:(a.ah.map (Ar.d id))[i]?=(zs.map (Ar.d (h_ a.kk)))[i]?:=by rw[e3]
    rw[List.getElem?_map,List.getElem?_map,hai,hi]at hm;simp only[Option.map_some,Option.some.injEq]at hm;have hq:=acE _ (List.mem_of_getElem? hai);unfold Ar.d at hm;simp only[List.cons_append,List.nil_append,D.a.injEq,List.cons.injEq,D.v.injEq,Value.int.injEq,true_and]at hm;obtain⟨m1,m2,m3,_⟩:=hm;unfold rO at hq;simp only[Bool.and_eq_true,decide_eq_true_eq]at hq;omega
   have hd:a.d=kX a.kk a.ps a.sy n (xs.map (h_ a.kk)) (ys.map (h_ a.kk)) (h_ a.kk) zs:=by
    unfold Au.d kX;rw[e3,e1,e2,hn]
   have hxl : xs.length = n := by have : a.aL.length = xs.length := by rw[e1];simp
                                  omega
   have hyl : ys.length = n := by have : a.fin.length = ys.length := by rw[e2];simp
                                  omega
   rw[hd]at v1 v2 ⊢;have hW:=aeo hr;have ok:∀ {y},xK a.kk a.ps 1 y->(h_ a.kk y).OK:=fun h=>Gp hr (by omega) h.2
   have ck:∀ {y},xK a.kk a.ps 1 y->bM a.kk a.ps (h_ a.kk y)=true:=fun h=>Ai hr h.2
   have gx:∀ x ∈ bn [] n to xs n,xK a.kk a.ps 1 x:=fun x hx=>g1 x (GR hpm hxl x hx)
   have gy:∀ x ∈ bn [] n to ys n,xK a.kk a.ps 1 x:=fun x hx=>g2 x (GR hpm hyl x hx)
   have gz:∀ z ∈ zs.map (Ar.via to),xK a.kk a.ps 1 z.x:=by
    intro z hz';obtain⟨z',h1,rfl⟩:=List.mem_map.1 hz';exact g3 z' h1
   have lx:(bn ([]:List Sv) n to xs n).length=n:=dX ..;have ly:(bn ([]:List Sv) n to ys n).length=n:=dX ..;have hval:Ca E1 1026 [.d (kX a.kk a.ps a.sy n ((bn [] n to xs n).map (h_ a.kk)) ((bn [] n to ys n).map (h_ a.kk)) (h_ a.kk) (zs.map (Ar.via to)))] (.d (.v (.bool true)),none):=by
    have:=uR (e:=h_ a.kk) a.kk a.ps a.sy n ((bn [] n to xs n).map (h_ a.kk)) ((bn [] n to ys n).map (h_ a.kk)) (zs.map (Ar.via to)) (by omega) (by simp;omega) (by simp;omega) (by simp;omega)
     (fun w hw=>by obtain⟨x,hx,rfl⟩:=List.mem_map.1 hw;exact ok (gx x hx)) (fun w hw=>by obtain⟨x,hx,rfl⟩:=List.mem_map.1 hw;exact ok (gy x hx)) (fun z hz'=>ok (gz z hz'))
    have hb:En a.kk a.ps a.sy n ((bn [] n to xs n).map (h_ a.kk)) ((bn [] n to ys n).map (h_ a.kk)) (h_ a.kk) (zs.map (Ar.via to))=true:=by
     unfold En GD;simp only[Bool.and_eq_true,decide_eq_true_eq,List.all_eq_true,List.length_map];refine⟨⟨hr,hs1,hs2,by omega,by omega,by omega,by omega,by omega⟩,fun z hz' => ?_,fun w hw => ?_,fun w hw => ?_⟩
     ·obtain⟨z',h1,rfl⟩:=List.mem_map.1 hz';obtain⟨⟨r1,r2⟩,r3,r4⟩:=hzr z' h1;obtain⟨_,k1,_,_,b1,b2⟩:=wS hpm r1;obtain⟨_,k2,_,_,b3,b4⟩:=wS hpm r2;unfold nR rO Ar.via Ar.to;simp only[b1,b3,Bool.and_eq_true,decide_eq_true_eq];exact⟨⟨by omega,by omega⟩,⟨by omega,by omega⟩,r3,r4,ck (g3 z' h1)⟩
     ·obtain⟨x,hx,rfl⟩:=List.mem_map.1 hw;exact ck (gx x hx)
     ·obtain⟨x,hx,rfl⟩:=List.mem_map.1 hw;exact ck (gy x hx)
    rw[hb]at this;exact this
   have hN:=Eo hW a.sy n (bn [] n to xs n) (bn [] n to ys n) (zs.map (Ar.via to)) (by omega) (by simp;omega) (by simp;omega) (by omega) (by omega) gx gy gz hval;have hF:=VE hW a.sy n (bn [] n to xs n) (bn [] n to ys n) (zs.map (Ar.via to)) (by omega) (by simp;omega) (by simp;omega) (by omega) (by omega) gx gy gz;have hzz:∀ l:List (List Sv),bn fP n to (l.map (h_ a.kk)) n=(bn [] n to l n).map (h_ a.kk):=fun l=>by rw[RV,ZH]
   refine⟨kX a.kk a.ps a.sy n ((bn [] n to xs n).map (h_ a.kk)) ((bn [] n to ys n).map (h_ a.kk)) (h_ a.kk) (qj (kE (lW a.kk a.ps)) (Re a.kk a.ps) (zs.map (Ar.via to))),0,⟨_,_,_,_,_,_,_,rfl⟩,ZG a.kk a.ps a.sy n _ _ zs to (by omega) (by simpa using hxl) (by simpa using hyl) (by omega) hpm (fun z h=>(hzr z h).1) v1 q1 _ ⟨_,_,_,_,_,_,_,rfl⟩ ?_,
    VY a.kk a.ps a.sy n _ _ zs to (by omega) (by simpa using hxl) (by simpa using hyl) (by omega) hpm (fun z h=>(hzr z h).1) v2 q2 _ ⟨_,_,_,_,_,_,_,rfl⟩ ?_,?_⟩
   ·rw[hzz,hzz];exact hN
   ·rw[hzz,hzz];exact hF
   ·refine GJ a.kk a.ps a.sy n _ _ _ (by omega) (by simp;omega) (by simp;omega) (Nat.le_trans (M0 _ 16 (by simp;omega)) (by omega)) (fun w hw => ?_) (fun w hw => ?_) (fun x hx => ?_)
    ·obtain⟨y,hy,rfl⟩:=List.mem_map.1 hw;exact ok (gx y hy)
    ·obtain⟨y,hy,rfl⟩:=List.mem_map.1 hw;exact ok (gy y hy)
    ·have:=JC hW (zs.map (Ar.via to)) gz (by simp;omega) x hx;simp only[List.length_map]at this;exact Gp hr (by omega) this.2
theorem R6 (a:Au)(to:List Int)(hta:a.nJ)(aw:Ca E1 1011 [] (.d (.v (.bool true)),none)):Ca E1 1007 [.d a.d,.d (.s 1 (LK .i64 to))] (.d (.v (.bool true)),none):=by
 have l1:Ca E1 1023 [.d a.d] (.d (.v (.bool a.bI)),none):=GN a.kk a.ps a.sy a.st a.aL a.fin a.ah;obtain⟨N1,t1⟩:=l1.any;obtain⟨N3,t3⟩:=aw.any;have nk:(LK .i64 to).length=to.length:=by simp[LK]
 by_cases h:a.bI=true/\to.length<=8
 ·have ha:=Au.lit hta h.1;obtain⟨A,er,⟨qa,qb,qc,qd,qf,qg,qh,rfl⟩,n1,n2,n3⟩:=BK ha to (by omega);rw[h.1]at t1;have h8:¬ (8:Int)<((LK .i64 to).length:Int):=by omega
  obtain⟨M1,u1⟩:=n1.any;obtain⟨M2,u2⟩:=n2.any;obtain⟨M3,u3⟩:=n3.any;obtain⟨K,hK⟩:∃ K,K=N1+N3+M1+M2+M3:=⟨_,rfl⟩
  replace t1:=t1 K (by omega);replace t3:=t3 K (by omega);replace u1:=u1 K (by omega);replace u2:=u2 K (by omega);replace u3:=u3 K (by omega);refine Ca.bO (n:=K+300) ?_;rw[aA rfl (k1007:E1.fn _=_) rfl];unfold Au.d kX q9 at*;clear n1 n2 n3 ha h hta l1 aw hK nk;generalize LK .i64 qb=q2,LK .i64 to=es,LK .i64 a.ps=p1,a.aL.map W.d=p2,a.fin.map W.d=p3,a.ah.map (Ar.d id)=p4 at*;simp -implicitDefEqProofs[f1007,t1,t3,u1,u2,u3,h8,mF]
 ·obtain⟨K,hK⟩:∃ K,K=N1+N3:=⟨_,rfl⟩
  replace t1:=t1 K (by omega);replace t3:=t3 K (by omega);refine Ca.bO (n:=K+300) ?_;rw[aA rfl (k1007:E1.fn _=_) rfl];have hd:a.bI=true->(8:Int)<((LK .i64 to).length:Int):=by
   intro h1;have:¬ to.length<=8:=fun h2=>h ⟨h1,h2⟩
   omega
  generalize a.bI=b1 at*;unfold Au.d kX q9 at*;clear h hta l1 aw hK nk;generalize LK .i64 to=es,LK .i64 a.ps=p1,a.aL.map W.d=p2,a.fin.map W.d=p3,a.ah.map (Ar.d id)=p4 at*;cases b1
  ·simp -implicitDefEqProofs[f1007,t1,t3,mF]
  ·have h8:=hd rfl;simp -implicitDefEqProofs[f1007,t1,t3,h8,mF]
end Fi.S
