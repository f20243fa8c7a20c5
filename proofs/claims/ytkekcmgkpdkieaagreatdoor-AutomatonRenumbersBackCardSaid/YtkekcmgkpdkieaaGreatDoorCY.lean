import Derived.Test.YtkekcmgkpdkieaaGreatDoorCS2
set_option linter.unusedVariables false
set_option linter.unusedSimpArgs false
noncomputable section
namespace Fi.S
open Go Fi
set_option maxHeartbeats 8000000
set_option maxRecDepth 10000
def fT (l:List Int)(n:Int):Bool:=decide ((l.length:Int)=n)&&(l.all (fun x=>AY x n)&&decide l.Nodup)
def xD (l:List Int)(n:Int)(j:Nat):Bool:=match l[j]? with
 | some x => !(AY x n)||decide (x ∈ l.take j)
 | none=>false
theorem J7 {l:List Int}{n:Int}:(List.range l.length).findIdx? (xD l n)=none↔(l.all (fun x=>AY x n)=true/\l.Nodup):=by
 rw[Xa0];constructor
 ·intro h;have h1:∀ (j:Nat) (hj:j<l.length),AY l[j] n=true/\l[j] ∉ l.take j:=by
   intro j hj;have:=h j (Qz0.2 hj);unfold xD at this;rw[Qa0 hj]at this;simpa using this
  refine⟨Qf2.2 fun x hx => ?_,?_⟩
  ·obtain⟨j,hj,rfl⟩:=Q60.1 hx;exact(h1 j hj).1
  ·rw[Qr0,Xe2];intro i j hi hj hij he;refine(h1 j hj).2 ?_;rw[<-he];rw[Q60];exact⟨i,by rw[Qr1];omega,by rw[List.getElem_take]⟩
 ·rintro⟨h1,h2⟩ j hj;rw[Qz0]at hj;unfold xD;rw[Qa0 hj];have h3:=Qf2.1 h1 _ (Qi2 hj);simp only[h3,Xi2,Xc1,decide_eq_false_iff_not];intro hm;obtain⟨i,hi,he⟩:=Q60.1 hm;rw[Qr1]at hi;rw[List.getElem_take]at he;rw[Qr0,Xe2]at h2;exact h2 i j omK hj omK he
theorem VR {l:List Int}{n:Int}{j:Nat}(h:(List.range l.length).findIdx? (xD l n)=some j):(l.all (fun x=>AY x n)&&decide l.Nodup)=false:=by
 cases hb:(l.all (fun x=>AY x n)&&decide l.Nodup) with
 | false=>rfl
 | true =>
  simp only[Qb2,decide_eq_true_eq]at hb;rw[J7.2 hb]at h;cases h
def iU (l:List Int)(N j:Nat):List D:=(List.range N).map fun(k:Nat)=>D.v (.bool (decide ((k:Int) ∈ l.take j)))
theorem adg (l:List Int)(N:Nat):iU l N 0=List.replicate N (.v (.bool false)):=by
 unfold iU;apply List.ext_getElem
 ·simp
 ·intro i h1 h2;simp
theorem G_ {l:List Int}{N j k:Nat}(h:k<N):(iU l N j)[k]?=some (.v (.bool (decide ((k:Int) ∈ l.take j)))):=by
 unfold iU;rw[Qb1,Xh0 h];rfl
theorem VS {l:List Int}{N j k:Nat}(h:k<N)(hk:l[j]?=some (k:Int)):(iU l N j).set k (.v (.bool true))=iU l N (j+1):=by
 apply Xj1;intro i;have htk:l.take (j+1)=l.take j++[(k:Int)]:=by rw[Q01,hk];rfl
 by_cases hi:i<N
 ·rw[G_ hi,Xp1,htk]
  by_cases he:k=i
  ·subst he;rw[if_pos rfl,if_pos (by simpa[iU] using h)];simp
  ·rw[if_neg he,G_ hi];have:¬ ((i:Int)=(k:Int)):=by omega
   simp[this]
 ·rw[Qn2 (by simp[iU];omega),Qn2 (by simp[iU];omega)]
def peL:aG:=f1076.body.r.r.l.r.bl.lp
def Sa (l:List Int)(N j:Nat)(t:FV):St:=(st0 [.d (.s 1 (LK .i64 l)),.d (.v (.int .i64 (N:Int))),.u,.ls (.loc 0) 0 1 0 N,.u,.d (.s 1 (LK .i64 l)),.d (.v (.int .i64 l.length)),.d (.v (.int .i64 j)),t,.u] [.row 0 1 (iU l N j)])
def peF (l:List Int)(N j:Nat):Out × St:=(.ret,(st0 [.u,.u,.d (.v (.bool false)),.u,.u,.u,.u,.u,.u,.u] [.row 0 1 (iU l N j)]))
theorem VT (l:List Int)(N j:Nat)(hl:l.length<=1000000)(hn:N<=64)(x:Int)(hx:l[j]?=some x):Ex E1 peL (Sa l N j .u) (if xD l N j then peF l N j else(.norm,Sa l N (j+1) .u)):=by
 have hj:j<l.length:=(bD hx)
 have hj0:(0:Int)<=(j:Int):=by omega
 have bz:ah .i64 ((j:Int)+1)=(j:Int)+1:=wrap_i64 omK;have hk1:((j+1:Nat):Int)=(j:Int)+1:=by omega
 have hjl:(j:Int)<(l.length:Int):=by omega
 have e1:(LK .i64 l)[j]?=some (.v (.int .i64 x)):=by simp[LK,hx]
 have n1:(LK .i64 l).length=l.length:=by simp[LK]
 have nS:(iU l N j).length=N:=by simp[iU]
 have hb:xD l N j=(!(AY x N)||decide (x ∈ l.take j)):=by unfold xD;rw[hx]
 rw[hb]
 by_cases h1:x<0
 ·have hs:AY x N=false:=by unfold AY;simp;omega
  rw[hs];unfold Sa peF;generalize iU l N j=sn,l.length=m,LK .i64 l=es at*;have i1:=idx e1;refine Ex.of (n:=100) ?_;simp -implicitDefEqProofs[peL,f1076,hj0,hj,hjl,e1,i1,n1,h1]
 by_cases h2:(N:Int)<=x
 ·have hs:AY x N=false:=by unfold AY;simp;omega
  rw[hs];unfold Sa peF;generalize iU l N j=sn,l.length=m,LK .i64 l=es at*;have i1:=idx e1;refine Ex.of (n:=100) ?_;simp -implicitDefEqProofs[peL,f1076,hj0,hj,hjl,e1,i1,n1,h1,h2]
 obtain⟨k,rfl⟩:∃ k:Nat,x=(k:Int):=⟨x.toNat,by omega⟩
 have hk:k<N:=by omega
 have hs:AY (k:Int) N=true:=by unfold AY;simp;omega
 rw[hs];have sa:=G_ (l:=l) (j:=j) hk;have ss:=VS hk hx;have hk0:(0:Int)<=(k:Int):=by omega
 have hkN:(k:Int)<(N:Int):=by omega
 unfold Sa peF;rw[<-ss,hk1];clear ss;generalize decide ((k:Int) ∈ l.take j)=b at*;generalize iU l N j=sn,l.length=m,LK .i64 l=es at*;have i1:=idx e1;have i2:=idx sa;refine Ex.of (n:=100) ?_;cases b
 ·simp -implicitDefEqProofs[peL,f1076,hj0,hj,hjl,e1,i1,n1,h1,h2,sa,i2,hk,hk0,hkN,nS,bz]
 ·simp -implicitDefEqProofs[peL,f1076,hj0,hj,hjl,e1,i1,n1,h1,h2,sa,i2,hk,hk0,hkN,nS]
theorem ZC (l:List Int)(N:Nat)(hl:l.length<=1000000)(hn:N<=64):Ca E1 1076 [.d (.s 1 (LK .i64 l)),.d (.v (.int .i64 (N:Int)))] (.d (.v (.bool (fT l N))),none):=by
 have n1:(LK .i64 l).length=l.length:=by simp[LK]
 have hloop:=Ex.xh (E:=E1) (b:=peL) (List.range l.length) (xD l N) (fun j=>Sa l N j .u) (.exit 0,Sa l N l.length (.d (.v (.bool false)))) (fun j=>peF l N j) (by simp) (by simp[peF])
  (fun j a ha=>by
   have hj:j<l.length:=by simpa using(bD ha)
   rw[Xh0 hj]at ha;cases ha;exact VT l N j hl hn _ (Qa0 hj))
  (by
   rw[Xp2];refine Ex.of (n:=60) ?_;unfold Sa;generalize iU l N l.length=sn at*;generalize l.length=m,LK .i64 l=es at*;simp -implicitDefEqProofs[peL,f1076])
 have hN0:(0:Int)<=(N:Int):=by omega
 have hm1:(N:Int)<=(most:Int):=by unfold most;omega
 have sA:Ex E1 f1076.body.l (st0 [.d (.s 1 (LK .i64 l)),.d (.v (.int .i64 (N:Int))),.u,.u,.u,.u,.u,.u,.u,.u] []) (.norm,(st0 [.d (.s 1 (LK .i64 l)),.d (.v (.int .i64 (N:Int))),.u,.u,.u,.u,.u,.u,.u,.u] [])):=by
  refine Ex.of (n:=60) ?_;simp -implicitDefEqProofs[f1076]
 have sB:Ex E1 f1076.body.r.l (st0 [.d (.s 1 (LK .i64 l)),.d (.v (.int .i64 (N:Int))),.u,.u,.u,.u,.u,.u,.u,.u] []) (.norm,(st0 [.d (.s 1 (LK .i64 l)),.d (.v (.int .i64 (N:Int))),.u,.ls (.loc 0) 0 1 0 N,.u,.u,.u,.u,.u,.u] [.row 0 1 (iU l N 0)])):=by
  refine Ex.of (n:=60) ?_;rw[adg];simp -implicitDefEqProofs[f1076,hN0,hm1]
 have sC:Ex E1 f1076.body.r.r.l.l (st0 [.d (.s 1 (LK .i64 l)),.d (.v (.int .i64 (N:Int))),.u,.ls (.loc 0) 0 1 0 N,.u,.u,.u,.u,.u,.u] [.row 0 1 (iU l N 0)]) (.norm,Sa l N 0 .u):=by
  refine Ex.of (n:=60) ?_;unfold Sa;generalize iU l N 0=sn at*;rw[<-n1];generalize LK .i64 l=es at*;simp -implicitDefEqProofs[f1076]
 cases hr:(List.range l.length).findIdx? (xD l N) with
 | some j =>
  rw[hr]at hloop;have hp:fT l N=false:=by unfold fT;rw[VR hr,Bool.and_false]
  rw[hp];refine Ca.body (o:=.ret) rfl (k1076:E1.fn _=_) rfl (sA.seq (sB.seq (Ex.dG (sC.seq (Ex.b_ hloop))))) (by simp) ?_;simp[show f1076.res=[.var 2] from rfl,show f1076.ref=false from rfl]
 | none =>
  rw[hr]at hloop;obtain⟨q1,q2⟩:=J7.1 hr;have hp:fT l N=decide ((l.length:Int)=(N:Int)):=by unfold fT;rw[q1,decide_eq_true q2];simp
  rw[hp];have sD:Ex E1 f1076.body.r.r.r (Sa l N l.length (.d (.v (.bool false)))) (.ret,(st0 [.u,.u,.d (.v (.bool (decide ((l.length:Int)=(N:Int))))),.u,.u,.u,.u,.u,.u,.u] [.row 0 1 (iU l N l.length)])):=by
   refine Ex.of (n:=60) ?_;unfold Sa;generalize iU l N l.length=sn at*;clear hloop sA sB sC hp hr q1 q2;rw[<-n1];generalize LK .i64 l=es at*
   by_cases h:(es.length:Int)=(N:Int)
   ·have h':((es.length:Int)==(N:Int))=true:=by simpa using h
    simp -implicitDefEqProofs[f1076,h,h']
   ·have h':((es.length:Int)==(N:Int))=false:=by simpa using h
    simp -implicitDefEqProofs[f1076,h,h']
  refine Ca.body (o:=.ret) rfl (k1076:E1.fn _=_) rfl (sA.seq (sB.seq (Ex.seq (sC.seq (Ex.block hloop)) sD))) (by simp) ?_;simp[show f1076.res=[.var 2] from rfl,show f1076.ref=false from rfl]
end Fi.S
namespace Fi.S
open Go Fi
set_option maxHeartbeats 8000000
set_option maxRecDepth 10000
set_option maxHeartbeats 4000000
section
theorem M9:∀ (n:Nat) (l:List Nat),l.Nodup->(∀ x ∈ l,x<n)->l.length<=n
 | 0,l,_,h=>by
  cases l with
  | nil=>simp
  | cons x r=>have:=h x (by simp);omega
 | n+1,l,hn,h=>by
  by_cases hm:n ∈ l
  ·have h1:=M9 n (l.erase n) (hn.erase n) (fun x hx=>by
    have h2:=h x (List.mem_of_mem_erase hx);have h3:x≠n:=fun he=>hn.not_mem_erase (he ▸ hx)
    omega)
   rw[List.length_erase_of_mem hm]at h1;omega
  ·have h1:=M9 n l hn (fun x hx=>by
    have h2:=h x hx;have h3:x≠n:=fun he=>hm (he ▸ hx)
    omega)
   omega
theorem eD {to:List Int}{n:Nat}(h:fT to n=true):to.length=n/\(∀ x ∈ to,0<=x/\x<n)/\to.Nodup:=by
 unfold fT AY at h;simp only[Qb2,decide_eq_true_eq,Qf2]at h;exact⟨by omega,h.2.1,h.2.2⟩
theorem yY {to:List Int}{n:Nat}(h:fT to n=true)(k:Nat)(hk:k<n):(k:Int) ∈ to:=by
 obtain⟨h1,h2,h3⟩:=eD h;cases hd:decide ((k:Int) ∈ to) with
 | true=>exact of_decide_eq_true hd
 | false =>
  have hno:=of_decide_eq_false hd;have hp:=M9 n (k::to.map Int.toNat) (by
   rw[X1];refine⟨fun hm => ?_,?_⟩
   ·obtain⟨x,hx,he⟩:=Qg2.1 hm;have:=h2 x hx;have:x=(k:Int):=by omega
    exact hno (this ▸ hx)
   ·rw[Qr0,Xf1];rw[Qr0]at h3;refine List.Pairwise.imp_of_mem (fun {a b} ha hb hab => ?_) h3;have:=h2 a ha;have:=h2 b hb;omega) (fun x hx=>by
   rcases Qi1.1 hx with rfl|hx
   ·exact hk
   ·obtain⟨y,hy,rfl⟩:=Qg2.1 hx;have:=h2 y hy;omega)
  simp only[Qe2,Qk2]at hp;omega
section
variable {β:Type}
def bJ (z:β)(n:Nat)(to:List Int)(xs:List β)(j:Nat):List β:=((to.zip xs).take j).foldl (fun r p=>r.set p.1.toNat p.2) (List.replicate n z)
theorem VU (z:β)(n:Nat)(to:List Int)(xs:List β):bJ z n to xs 0=List.replicate n z:=rfl
theorem um {z:β}{n:Nat}{to:List Int}{xs:List β}{j k:Nat}{x:β}(h1:to[j]?=some (k:Int))(h2:xs[j]?=some x):bJ z n to xs (j+1)=(bJ z n to xs j).set k x:=by
 have:(to.zip xs)[j]?=some ((k:Int),x):=Q92.2 ⟨h1,h2⟩;unfold bJ;rw[Q01,this,Xp0];rfl
theorem cO (z:β)(n:Nat)(to:List Int)(xs:List β)(j:Nat):(bJ z n to xs j).length=n:=by
 unfold bJ;have:∀ (l:List (Int × β)) (r:List β),(l.foldl (fun r p=>r.set p.1.toNat p.2) r).length=r.length:=by
  intro l
  induction l with
  | nil=>intro r;rfl
  | cons p l ih=>intro r;rw[Qm0,ih];simp
 rw[this];simp
theorem VV {γ:Type}(f:β->γ)(z:β)(n:Nat)(to:List Int)(xs:List β)(j:Nat):(bJ z n to xs j).map f=bJ (f z) n to (xs.map f) j:=by
 unfold bJ;have:∀ (l:List (Int × β)) (r:List β),(l.foldl (fun r p=>r.set p.1.toNat p.2) r).map f=(l.map fun p=>(p.1,f p.2)).foldl (fun r p=>r.set p.1.toNat p.2) (r.map f):=by
  intro l
  induction l with
  | nil=>intro r;rfl
  | cons p l ih=>intro r;rw[Qm0,ih,Qd2,Qm0,Qz2]
 rw[this,X30,List.map_take]
 congr 2
 rw[List.zip_map_right];rfl
theorem nG {z:β}{n:Nat}{to:List Int}{xs:List β}(h:fT to n=true):∀ j,j<=n->j<=xs.length->∀ i,i<j->∃ k:Nat,to[i]?=some (k:Int)/\(bJ z n to xs j)[k]?=xs[i]?
 | 0,_,_=>fun i hi=>by omega
 | j+1,hj,hx=>fun i hi=>by
  obtain⟨h1,h2,h3⟩:=eD h;have hjl:j<to.length:=by omega
  obtain⟨k,hk⟩:∃ k:Nat,to[j]?=some (k:Int):=by
   have:=h2 _ (Qi2 hjl);exact⟨(to[j]).toNat,by rw[Qa0 hjl];congr 1;omega⟩
  have hkn:k<n:=by
   have:=h2 _ (Qa2 hk);omega
  have hxj:xs[j]?=some (xs[j]'(by omega)):=Qa0 omK;rw[um hk hxj]
  by_cases he:i=j
  ·subst he;refine⟨k,hk,?_⟩;rw[Qf0 (by rw[cO];exact hkn),hxj]
  ·obtain⟨k',a1,a2⟩:=nG (z:=z) (xs:=xs) h j omK omK i omK;refine⟨k',a1,?_⟩;rw[Qd0,a2];intro hkk;subst hkk;have q1:=(Qu0.1 hk)
   have q2:=(Qu0.1 a1)
   obtain⟨q1,e1⟩:=q1;obtain⟨q2,e2⟩:=q2;rw[Qr0,Xe2]at h3;exact h3 i j q2 q1 omK (by rw[e1,e2])
theorem xE {z:β}{n:Nat}{to:List Int}{xs:List β}(h:fT to n=true)(hx:xs.length=n):∀ x ∈ bJ z n to xs n,x ∈ xs:=by
 intro x hxm;obtain⟨k,hk,he⟩:=Q60.1 hxm;rw[cO]at hk;have hin:=yY h k hk;obtain⟨i,hi,hie⟩:=Q60.1 hin;obtain⟨h1,_,_⟩:=eD h;obtain⟨k',a1,a2⟩:=nG (z:=z) (xs:=xs) h n (Qd1 _) omK i omK;have:k'=k:=by
  rw[Qa0 hi,hie]at a1;have:=Qo2 a1;omega
 subst this;rw[Qa0 (by rw[cO];exact hk),he]at a2;exact Qa2 a2.symm
end
end
end Fi.S
namespace Fi.S
open Go Fi
set_option maxHeartbeats 8000000
set_option maxRecDepth 10000
def lQ:ae:=.box [.d (.v (.int .i64 0)),.d (.n 1),.d (.v (.int .i64 0)),.d (.v (.int .i64 0)),.d (.n 8),.d (.n 8),.d (.n 11)]
def eH (kk:Int)(ps:List Int)(sy st:Int)(n:Nat)(px:FV):ae:=.box [.d (.v (.int .i64 kk)),.d (.s 1 (LK .i64 ps)),.d (.v (.int .i64 sy)),.d (.v (.int .i64 st)),.ls (.loc 2) 0 8 0 n,.ls (.loc 3) 0 8 0 n,px]
def rnL:aG:=f1029.body.r.r.r.r.l.r.bl.lp
def Sb (to:List Int)(bx ox:ae)(R1 R2:List D)(j:Nat)(t:FV):St :=
 (st0 [.u,.d (.s 1 (LK .i64 to)),.r (.loc 0) 0,.r (.loc 1) 0,.u,.r (.loc 4) 0,.u,.u,.u,.u,.u,.d (.s 1 (LK .i64 to)),.d (.v (.int .i64 to.length)),.d (.v (.int .i64 j)),t,.u,.u,.u,.u] [bx,lQ,.row 0 8 R1,.row 0 8 R2,ox])
theorem VW (kk:Int)(ps:List Int)(sy st:Int)(aM fin:List W)(ak:List D)(to:List Int)(n:Nat)(R1 R2:List D)(hl:to.length<=1000000)(l1:R1.length=n)(l2:R2.length=n)(j k:Nat)(v w:W)
  (hk:to[j]?=some (k:Int)) (hkn:k<n) (hv:aM[j]?=some v) (hw:fin[j]?=some w) (w1 w2:W) (r1:R1[k]?=some w1.d) (r2:R2[k]?=some w2.d) :
  Ex E1 rnL (Sb to (aD kk ps sy st (aM.map W.d) (fin.map W.d) ak) (eH kk ps sy st n (.d (.n 11))) R1 R2 j .u)
   (.norm,Sb to (aD kk ps sy st (aM.map W.d) (fin.map W.d) ak) (eH kk ps sy st n (.d (.n 11))) (R1.set k v.d) (R2.set k w.d) (j+1) .u):=by
 have hj:j<to.length:=(bD hk)
 have hj0:(0:Int)<=(j:Int):=by omega
 have bz:ah .i64 ((j:Int)+1)=(j:Int)+1:=wrap_i64 omK;have hk1:((j+1:Nat):Int)=(j:Int)+1:=by omega
 have hjl:(j:Int)<(to.length:Int):=by omega
 have hk0:(0:Int)<=(k:Int):=by omega
 have hkN:(k:Int)<(n:Int):=by omega
 have e1:(LK .i64 to)[j]?=some (.v (.int .i64 k)):=by simp[LK,hk]
 have e2:(aM.map W.d)[j]?=some v.d:=by simp[hv]
 have e3:(fin.map W.d)[j]?=some w.d:=by simp[hw]
 have n1:(LK .i64 to).length=to.length:=by simp[LK]
 obtain⟨s,a1,a2,c,b,u,q,p,ev⟩:=v.aN;obtain⟨s',a1',a2',c',b',u',q',p',ew⟩:=w.aN;obtain⟨s1,b1,b2,c1,d1,f1,g1,h1,ev1⟩:=w1.aN;obtain⟨s2,b3,b4,c2,d2,f2,g2,h2,ev2⟩:=w2.aN;rw[ev1]at r1;rw[ev2]at r2;rw[ev]at e2 ⊢;rw[ew]at e3 ⊢;unfold Sb aD eH lQ wD at*;rw[hk1];generalize to.length=m,LK .i64 to=es,LK .i64 ps=l9,aM.map W.d=x1,fin.map W.d=x2 at*;have i1:=idx e1;have i2:=idx e2;have i3:=idx e3;have j2:j<x1.length:=(bD e2)
 have j3:j<x2.length:=(bD e3)
 have i4:=idx r1;have i5:=idx r2;have k1:k<R1.length:=by omega
 have k2:k<R2.length:=by omega
 refine Ex.of (n:=200) ?_;simp -implicitDefEqProofs[rnL,f1029,hj0,hj,hjl,hk0,hkN,hkn,e1,e2,e3,i1,i2,i3,n1,j2,j3,k1,k2,l1,l2,r1,r2,i4,i5,bz,checked,pK,GH,Ref.abs]
section
def M_ (px:FV)(L:List ae)(aq:List D):Prop:=(px=.d (.n 11)/\aq=[])\/∃ i az,5<=i/\px=.ls (.loc i) az 11 0 aq.length/\L[i]?=some (.row az 11 aq)
variable {α:Type} {e:α->W}
def Ar.to (a:Ar α)(f t:Int):Ar α:=⟨f,a.l,t,a.x⟩
def K6:aG:=f1029.body.r.r.r.r.r.l.r.bl.lp
def Dn (to:List Int)(ak:List D)(L:List ae)(j:Nat)(t:FV):St :=
 (st0 [.u,.d (.s 1 (LK .i64 to)),.u,.r (.loc 1) 0,.u,.r (.loc 4) 0,.u,.u,.u,.u,.u,.u,.u,.u,.u,.d (.s 11 ak),.d (.v (.int .i64 ak.length)),.d (.v (.int .i64 j)),t] L)
def raT (to:List Int)(ak:List D)(L:List ae)(j:Nat)(p:FV)(t:FV):St :=
 (st0 [.u,.d (.s 1 (LK .i64 to)),.u,.r (.loc 1) 0,.u,.r (.loc 4) 0,.u,.u,p,.u,.u,.u,.u,.u,.u,.d (.s 11 ak),.d (.v (.int .i64 ak.length)),.d (.v (.int .i64 j)),t] L)
theorem VX (kk:Int)(ps:List Int)(sy st:Int)(aM fin:List D)(to:List Int)(n:Nat)(ak:List (Ar α))(h3:ak.length<=1000000)(L:List ae)(px:FV)(aq:List D)(hlen:aq.length<=1000000)(h0:L[0]?=some (aD kk ps sy st aM fin (ak.map (Ar.d e))))(h4:L[4]?=some (eH kk ps sy st n px))(ho:M_ px L aq)
  (j f t kf kt:Nat) (a:Ar α) (ha:ak[j]?=some a) (haf:a.f=(f:Int)) (hat:a.t=(t:Int)) (hf:to[f]?=some (kf:Int)) (ht:to[t]?=some (kt:Int)) :
  ∃ pJ L',Ex E1 K6 (Dn to (ak.map (Ar.d e)) L j .u) (.norm,Dn to (ak.map (Ar.d e)) L' (j+1) .u)/\(∀ i,i<4->L'[i]?=L[i]?)/\L'[4]?=some (eH kk ps sy st n pJ)/\M_ pJ L' (aq++[(a.to kf kt).d e]):=by
 have hj:j<ak.length:=(bD ha)
 have hj0:(0:Int)<=(j:Int):=by omega
 have bz:ah .i64 ((j:Int)+1)=(j:Int)+1:=wrap_i64 omK;have hk1:((j+1:Nat):Int)=(j:Int)+1:=by omega
 have hjl:(j:Int)<(ak.length:Int):=by omega
 have e1:(ak.map (Ar.d e))[j]?=some (a.d e):=by simp[ha]
 have n3:(ak.map (Ar.d e)).length=ak.length:=by simp
 have ef:(LK .i64 to)[f]?=some (.v (.int .i64 kf)):=by simp[LK,hf]
 have et:(LK .i64 to)[t]?=some (.v (.int .i64 kt)):=by simp[LK,ht]
 have f0:(0:Int)<=(f:Int):=by omega
 have t0:(0:Int)<=(t:Int):=by omega
 have b4l:4<L.length:=(bD h4)
 have OQ:0<L.length:=by omega
 obtain⟨B,hB⟩:∃ B,L.length=B:=⟨_,rfl⟩
 have hg:=fun(o:ae)=>lV (o:=o) hB
 have hs:=fun(o o':ae)=>lW (o:=o) (o':=o') hB
 have g4:∀ X,(L++X)[4]?=some (eH kk ps sy st n px):=fun X=>by rw[Qa1 b4l];exact h4
 have sA:Ex E1 K6.l (Dn to (ak.map (Ar.d e)) L j .u) (.norm,Dn to (ak.map (Ar.d e)) L j (.d (.v (.bool true)))):=by
  refine Ex.of (n:=60) ?_;clear hg hs g4;unfold Dn aD at*;generalize LK .i64 to=es,LK .i64 ps=l9,ak.map (Ar.d e)=x3 at*;have i0:=idx h0;have aiW:(j:Int)<(x3.length:Int):=by omega
  simp -implicitDefEqProofs[K6,f1029,hjl,aiW,n3,h0,i0,OQ]
 have sB:Ex E1 K6.r.r.l.bl.l (Dn to (ak.map (Ar.d e)) L j (.d (.v (.bool true)))) (.norm,raT to (ak.map (Ar.d e)) (L++[fE e a]) j (.r (.loc B) 0) .u):=by
  refine Ex.of (n:=60) ?_;clear ef et hf ht;unfold Dn raT aD fE at*;obtain⟨s,l1,l2,c,b,u',q,ps',ew,ed⟩:=a.jD e;rw[ed]at e1 ⊢;unfold yO at*;simp only[D.cells,Qd2,Qc0];generalize LK .i64 to=es,LK .i64 ps=l9,ak.map (Ar.d e)=x3 at*;have i0:=idx h0;have i1:=idx e1;have qQ:j<x3.length:=(bD e1)
  simp -implicitDefEqProofs[K6,f1029,hj0,qQ,e1,i0,i1,h0,hg,hs,hB,OQ]
 have h4':=g4 [fE e a];have hB':(L++[fE e a])[B]?=some (fE e a):=hg _;have ho':M_ px (L++[fE e a]) aq:=by
  rcases ho with h|⟨i,az,h5,h6,h7⟩
  ·exact .inl h
  ·exact .inr ⟨i,az,h5,h6,by rw[Qa1 (bD h7)];exact h7⟩
 have hk4:∀ i,i<4->(L++[fE e a])[i]?=L[i]?:=fun i hi=>Qa1 omK
 have h0':(L++[fE e a])[0]?=some (aD kk ps sy st aM fin (ak.map (Ar.d e))):=by rw[hk4 0 omK];exact h0
 have hLn:4<B:=by omega
 generalize hL1:L++[fE e a]=M at*;clear hg hs g4 ho;have c4l:4<M.length:=(bD h4')
 have cBl:B<M.length:=(bD hB')
 have sC:∃ pJ M',Ex E1 K6.r.r.l.bl.r (raT to (ak.map (Ar.d e)) M j (.r (.loc B) 0) .u) (.norm,raT to (ak.map (Ar.d e)) M' j .u .u)/\(∀ i,i<4->M'[i]?=M[i]?)/\M'[4]?=some (eH kk ps sy st n pJ)/\M_ pJ M' (aq++[(a.to kf kt).d e]):=by
  obtain⟨s,l1,l2,c,b,u',q,ps',ew,ed⟩:=a.jD e;have ed':(a.to kf kt).d e=yO kf a.l kt s l1 l2 c b u' q ps':=by
   obtain⟨f',l',t',x'⟩:=a;unfold Ar.to Ar.d yO at*;simp only at ew;rw[ew];rfl
  rw[ed'];unfold fE at hB';rw[ed,haf,hat]at hB';unfold yO at*;simp only[D.cells,Qd2,Qc0]at hB';have m1:152<=most:=by unfold most;omega
  have m2:1<=most:=by unfold most;omega
  have m3:(aq.length+1)*152<=most:=by unfold most;omega
  have m4:aq.length+1<=most:=by unfold most;omega
  rcases ho' with ⟨rfl,rfl⟩|⟨i,az,h5,rfl,h7⟩
  ·refine⟨.ls (.loc M.length) 0 11 0 1,M.set 4 (eH kk ps sy st n (.ls (.loc M.length) 0 11 0 1))++[.row 0 11 [.a [.v (.int .i64 kf),.v (.int .i64 a.l),.v (.int .i64 kt),.v (.bool s),.s 1 l1,.s 1 l2,.v (.int .i64 c),.v (.bool b),.v (.int .u64 u'),.s 6 q,.s 8 ps']]],Ex.of (n:=200) ?_,fun i hi => ?_,?_,.inr ⟨M.length,0,by omega,rfl,by simp⟩⟩
   ·unfold raT eH aD at*;clear hL1 sA sB hk4 h0 h4 e1 ed ed' ew;generalize LK .i64 to=es,LK .i64 ps=l9,ak.map (Ar.d e)=x3 at*;have i1:=idx ef;have i2:=idx et;have i3:=idx h4';have i4:=idx hB';have j1:f<es.length:=(bD ef)
    have j2:t<es.length:=(bD et)
    have g4:∀ X,(M++X)[4]?=_:=fun X=>(Qa1 c4l).trans h4'
    have i5:=fun X=>idx (g4 X)
    simp -implicitDefEqProofs[K6,f1029,f0,t0,ef,et,i1,i2,i3,i4,i5,j1,j2,h4',hB',g4,c4l,cBl,m1,m2]
   ·rw[Qa1 (by simp;omega),Qd0 omK]
   ·rw[Qa1 (by simpa using c4l)];exact Qf0 c4l
  ·have hil:i<M.length:=(bD h7)
   refine⟨.ls (.loc i) (az+1) 11 0 (aq.length+1),(M.set i (.row (az+1) 11 (aq++[.a [.v (.int .i64 kf),.v (.int .i64 a.l),.v (.int .i64 kt),.v (.bool s),.s 1 l1,.s 1 l2,.v (.int .i64 c),.v (.bool b),.v (.int .u64 u'),.s 6 q,.s 8 ps']]))).set 4 (eH kk ps sy st n (.ls (.loc i) (az+1) 11 0 (aq.length+1))),Ex.of (n:=200) ?_,fun i' hi => ?_,?_,.inr ⟨i,az+1,h5,by simp,?_⟩⟩
   ·unfold raT eH aD at*;clear hL1 sA sB hk4 h0 h4 e1 ed ed' ew;generalize LK .i64 to=es,LK .i64 ps=l9,ak.map (Ar.d e)=x3 at*;have i1:=idx ef;have i2:=idx et;have i3:=idx h4';have i4:=idx hB';have i6:=idx h7;have j1:f<es.length:=(bD ef)
    have j2:t<es.length:=(bD et)
    have hne:i≠4:=by omega
    have s4:∀ r,(M.set i r)[4]?=_:=fun r=>(Qd0 hne).trans h4'
    have i5:∀ r (h:4<(M.set i r).length),(M.set i r)[4]=_:=fun r h=>idx (s4 r) h
    simp -implicitDefEqProofs[K6,f1029,f0,t0,ef,et,i1,i2,i3,i4,i5,i6,j1,j2,h4',hB',h7,s4,c4l,cBl,hil,m3,m4]
   ·rw[Qd0 omK,Qd0 omK]
   ·exact Qf0 (by simpa using c4l)
   ·rw[Qd0 omK];exact Qf0 hil
 obtain⟨pJ,M',q1,q2,q3,q4⟩:=sC;have sE:Ex E1 K6.r.l (Dn to (ak.map (Ar.d e)) L j (.d (.v (.bool true)))) (.norm,Dn to (ak.map (Ar.d e)) L j (.d (.v (.bool true)))):=by
  refine Ex.of (n:=60) ?_;unfold Dn;generalize LK .i64 to=es,ak.map (Ar.d e)=x3 at*;simp -implicitDefEqProofs[K6,f1029]
 have sD:Ex E1 K6.r.r.r (raT to (ak.map (Ar.d e)) M' j .u .u) (.norm,Dn to (ak.map (Ar.d e)) M' (j+1) .u):=by
  refine Ex.of (n:=60) ?_;unfold Dn raT;rw[hk1];generalize LK .i64 to=es,ak.map (Ar.d e)=x3 at*;simp -implicitDefEqProofs[K6,f1029,bz]
 exact⟨pJ,M',sA.seq (Ex.seq (b:=K6.r.r) sE (Ex.seq (Ex.gm (sB.seq q1)) sD)),fun i hi=>(q2 i hi).trans (hk4 i hi),q3,q4⟩
end
section
variable {α:Type} {e:α->W}
def qL:W:=.mk false [] [] 0 false 0 [] []
def Ar.via (to:List Int)(a:Ar α):Ar α:=a.to (to.getD a.f.toNat 0) (to.getD a.t.toNat 0)
theorem fold_map {β γ:Type}(g:β->γ):∀ (l:List β) (p:List γ),l.foldl (fun aq a=>aq++[g a]) p=p++l.map g
 | [],p=>by simp
 | x::l,p=>by rw[Qm0,fold_map g l,Qd2,Qo1];rfl
theorem VY {to:List Int}{n:Nat}(h:fT to n=true){x:Int}(hx:0<=x/\x<n):∃ f k:Nat,x=(f:Int)/\to[f]?=some (k:Int)/\to.getD x.toNat 0=(k:Int)/\k<n:=by
 obtain⟨h1,h2,_⟩:=eD h;have hf:x.toNat<to.length:=by omega
 have:=h2 _ (Qi2 hf);refine⟨x.toNat,(to[x.toNat]).toNat,by omega,?_,?_,by omega⟩
 ·rw[Qa0 hf];congr 1;omega
 ·rw[Qh1,Qa0 hf];simp only[Q30];omega
theorem J8 {z:W}{n:Nat}{to:List Int}{xs:List W}{j k:Nat}(hk:k<n):∃ w:W,((bJ z n to xs j).map W.d)[k]?=some w.d:=by
 have:k<(bJ z n to xs j).length:=by rw[cO];exact hk
 exact⟨(bJ z n to xs j)[k],by rw[Qb1,Qa0 this];rfl⟩
theorem ZE (kk:Int)(ps:List Int)(sy:Int)(n:Nat)(aM fin:List W)(ak:List D)(to:List Int)(hn:n<=1000000)(hp:fT to n=true)(h1:aM.length=n)(h2:fin.length=n) :
  Ex E1 (.loop rnL) (Sb to (aD kk ps sy n (aM.map W.d) (fin.map W.d) ak) (eH kk ps sy n n (.d (.n 11))) ((bJ qL n to aM 0).map W.d) ((bJ qL n to fin 0).map W.d) 0 .u)
   (.exit 0,Sb to (aD kk ps sy n (aM.map W.d) (fin.map W.d) ak) (eH kk ps sy n n (.d (.n 11))) ((bJ qL n to aM n).map W.d) ((bJ qL n to fin n).map W.d) n (.d (.v (.bool false)))):=by
 obtain⟨p1,p2,_⟩:=eD hp;have h:=Ex.OH (E:=E1) (b:=rnL) to (fun _=>true) (fun j=>Sb to (aD kk ps sy n (aM.map W.d) (fin.map W.d) ak) (eH kk ps sy n n (.d (.n 11))) ((bJ qL n to aM j).map W.d) ((bJ qL n to fin j).map W.d) j .u)
  (.exit 0,Sb to (aD kk ps sy n (aM.map W.d) (fin.map W.d) ak) (eH kk ps sy n n (.d (.n 11))) ((bJ qL n to aM n).map W.d) ((bJ qL n to fin n).map W.d) n (.d (.v (.bool false)))) (.ret,(st0 [] [])) (by simp) (by simp)
  (fun j x hx=>by
   have hj:j<to.length:=(bD hx)
   have ZF:=p2 x (Qa2 hx);obtain⟨k,rfl⟩:∃ k:Nat,x=(k:Int):=⟨x.toNat,by omega⟩
   have hkn:k<n:=by omega
   have hv:aM[j]?=some (aM[j]'(by omega)):=Qa0 omK;have hw:fin[j]?=some (fin[j]'(by omega)):=Qa0 omK;obtain⟨w1,r1⟩:=J8 (z:=qL) (to:=to) (xs:=aM) (j:=j) hkn;obtain⟨w2,r2⟩:=J8 (z:=qL) (to:=to) (xs:=fin) (j:=j) hkn;rw[if_pos rfl,um hx hv,um hx hw,Qz2,Qz2];exact VW kk ps sy n aM fin ak to n _ _ omK (by simp[cO]) (by simp[cO]) j k _ _ hx hkn hv hw w1 w2 r1 r2)
  (by
   rw[p1];refine Ex.of (n:=60) ?_;unfold Sb aD;rw[p1];generalize LK .i64 to=es,LK .i64 ps=l9,(bJ qL n to aM n).map W.d=q1,(bJ qL n to fin n).map W.d=q2,aM.map W.d=q3,fin.map W.d=q4 at*;simp -implicitDefEqProofs[rnL,f1029])
 rw[if_pos (by simp)]at h;exact h
theorem ZG (kk:Int)(ps:List Int)(sy st:Int)(aM fin:List D)(to:List Int)(n:Nat)(ak:List (Ar α))(h3:ak.length<=100000)(hp:fT to n=true)(hin:∀ a ∈ ak,(0<=a.f/\a.f<n)/\(0<=a.t/\a.t<n))(L:List ae)(h0:L[0]?=some (aD kk ps sy st aM fin (ak.map (Ar.d e))))(h4:L[4]?=some (eH kk ps sy st n (.d (.n 11)))) :
  ∃ px L',Ex E1 (.loop K6) (Dn to (ak.map (Ar.d e)) L 0 .u) (.exit 2,Dn to (ak.map (Ar.d e)) L' ak.length (.d (.v (.bool false))))/\(∀ i,i<4->L'[i]?=L[i]?)/\L'[4]?=some (eH kk ps sy st n px)/\M_ px L' ((ak.map (Ar.via to)).map (Ar.d e)):=by
 obtain⟨r,h1,px,L',rfl,h2,h5,h6⟩:=Ex.fold (E:=E1) (b:=K6) ak (fun(aq:List D) a=>aq++[(a.via to).d e]) []
  (fun j aq st'=>aq.length=j/\∃ px M,st'=Dn to (ak.map (Ar.d e)) M j .u/\(∀ i,i<4->M[i]?=L[i]?)/\M[4]?=some (eH kk ps sy st n px)/\M_ px M aq)
  (fun aq r=>∃ px M,r=(.exit 2,Dn to (ak.map (Ar.d e)) M ak.length (.d (.v (.bool false))))/\(∀ i,i<4->M[i]?=L[i]?)/\M[4]?=some (eH kk ps sy st n px)/\M_ px M aq)
  (fun j a st' ha ⟨hlen,px,M,hst,q1,q2,q3⟩=>by
   subst hst;have hj:j<ak.length:=(bD ha)
   obtain⟨⟨a1,a2⟩,a3,a4⟩:=hin a (Qa2 ha);obtain⟨f,kf,f1,f2,f3,_⟩:=VY hp ⟨a1,a2⟩;obtain⟨t,kt,t1,t2,t3,_⟩:=VY hp ⟨a3,a4⟩;obtain⟨pJ,M',r1,r2,r3,r4⟩:=VX kk ps sy st aM fin to n ak omK M px _ omK ((q1 0 omK).trans h0) q2 q3 j f t kf kt a ha f1 t1 f2 t2;refine⟨_,r1,?_,pJ,M',rfl,fun i hi=>(r2 i hi).trans (q1 i hi),r3,?_⟩
   ·rw[Qb0,hlen];rfl
   ·unfold Ar.via;rw[f3,t3];exact r4)
  (fun st' ⟨hlen,px,M,hst,q1,q2,q3⟩=>by
   subst hst;refine⟨(.exit 2,Dn to (ak.map (Ar.d e)) M ak.length (.d (.v (.bool false)))),Ex.of (n:=60) ?_,by simp,px,M,rfl,q1,q2,q3⟩;have n3:(ak.map (Ar.d e)).length=ak.length:=by simp
   have hM0:=(q1 0 omK).trans h0;have OQ:0<M.length:=(bD hM0)
   unfold Dn aD at*;rw[<-n3];generalize LK .i64 to=es,LK .i64 ps=l9,ak.map (Ar.d e)=x3 at*;have i0:=idx hM0;simp -implicitDefEqProofs[K6,f1029,hM0,i0,OQ])
  (st:=Dn to (ak.map (Ar.d e)) L 0 .u) ⟨rfl,.d (.n 11),L,rfl,fun i _=>rfl,h4,.inl ⟨rfl,rfl⟩⟩
 rw[fold_map,Qy0]at h6;refine⟨px,L',h1,h2,h5,?_⟩;rw[Q42];exact h6
end
section
variable {α:Type} {e:α->W}
theorem five {L:List ae}{a b c d f:ae}(h0:L[0]?=some a)(h1:L[1]?=some b)(h2:L[2]?=some c)(h3:L[3]?=some d)(h4:L[4]?=some f):∃ T,L=a::b::c::d::f::T:=by
 match L,h0,h1,h2,h3,h4 with
 | a'::b'::c'::d'::f'::T,h0,h1,h2,h3,h4 =>
  simp at h0 h1 h2 h3 h4;subst h0 h1 h2 h3 h4;exact⟨T,rfl⟩
 | [],h0,_,_,_,_=>simp at h0
 | [_],_,h1,_,_,_=>simp at h1
 | [_,_],_,_,h2,_,_=>simp at h2
 | [_,_,_],_,_,_,h3,_=>simp at h3
 | [_,_,_,_],_,_,_,_,h4=>simp at h4
theorem adi (kk:Int)(ps:List Int)(sy:Int)(n:Nat)(aM fin:List W)(ak:List (Ar α))(to:List Int)(hn:n<=64)(h1:aM.length=n)(h2:fin.length=n)(h3:ak.length<=100000)(hp:fT to n=true)(hin:∀ a ∈ ak,(0<=a.f/\a.f<n)/\(0<=a.t/\a.t<n))
  (hv:Ca E1 1026 [.d (uP kk ps sy n aM fin e ak)] (.d (.v (.bool true)),none)) (hperm:Ca E1 1076 [.d (.s 1 (LK .i64 to)),.d (.v (.int .i64 (n:Int)))] (.d (.v (.bool true)),none)) (A:D) (hA:∃ a b c d f g h,A=qW a b c d f g h)
  (hN:Ca E1 1024 [.d (uP kk ps sy n (bJ qL n to aM n) (bJ qL n to fin n) e (ak.map (Ar.via to)))] (.d (.t [A,.v (.int .i64 0)]),none)) :
  Ca E1 1029 [.d (uP kk ps sy n aM fin e ak),.d (.s 1 (LK .i64 to))] (.d (.t [A,.v (.int .i64 0)]),none):=by
 obtain⟨p1,p2,_⟩:=eD hp;obtain⟨N1,t1⟩:=hv.any;obtain⟨N2,t2⟩:=hperm.any;obtain⟨N3,t3⟩:=hN.any;obtain⟨K,hK⟩:∃ K,K=N1+N2+N3:=⟨_,rfl⟩
 replace t1:=t1 K omK;replace t2:=t2 K omK;replace t3:=t3 K omK;have rX:=ZE kk ps sy n aM fin (ak.map (Ar.d e)) to omK hp h1 h2;obtain⟨bx,hbx⟩:∃ bx,bx=aD kk ps sy n (aM.map W.d) (fin.map W.d) (ak.map (Ar.d e)):=⟨_,rfl⟩
 obtain⟨px,L,vL,k0,k4,ko⟩:=ZG (e:=e) kk ps sy n (aM.map W.d) (fin.map W.d) to n ak h3 hp hin [bx,lQ,.row 0 8 ((bJ qL n to aM n).map W.d),.row 0 8 ((bJ qL n to fin n).map W.d),eH kk ps sy n n (.d (.n 11))] (by rw[hbx];rfl) rfl;rw[<-hbx]at rX;have sA:Ex E1 f1029.body.l (st0 [.d (uP kk ps sy n aM fin e ak),.d (.s 1 (LK .i64 to)),.u,.u,.u,.u,.u,.u,.u,.u,.u,.u,.u,.u,.u,.u,.u,.u,.u] []) (.norm,(st0 [.u,.d (.s 1 (LK .i64 to)),.r (.loc 0) 0,.r (.loc 1) 0,.u,.u,.u,.u,.u,.u,.u,.u,.u,.u,.u,.u,.u,.u,.u] [bx,lQ])):=by
  refine Ex.of (n:=60) ?_;rw[hbx];unfold uP qW aD lQ;simp -implicitDefEqProofs[f1029]
 have sV:Ex E1 f1029.body.r.l (st0 [.u,.d (.s 1 (LK .i64 to)),.r (.loc 0) 0,.r (.loc 1) 0,.u,.u,.u,.u,.u,.u,.u,.u,.u,.u,.u,.u,.u,.u,.u] [bx,lQ]) (.norm,(st0 [.u,.d (.s 1 (LK .i64 to)),.r (.loc 0) 0,.r (.loc 1) 0,.u,.u,.u,.u,.u,.d (.v (.bool false)),.u,.u,.u,.u,.u,.u,.u,.u,.u] [bx,lQ])):=by
  refine Ex.of (n:=K+60) ?_;clear rX vL t2 t3 sA;rw[hbx];unfold uP qW aD at*;generalize LK .i64 to=es,LK .i64 ps=l9,ak.map (Ar.d e)=x3,aM.map W.d=x1,fin.map W.d=x2 at*;simp -implicitDefEqProofs[f1029,t1]
 have sP:Ex E1 f1029.body.r.r.l (st0 [.u,.d (.s 1 (LK .i64 to)),.r (.loc 0) 0,.r (.loc 1) 0,.u,.u,.u,.u,.u,.d (.v (.bool false)),.u,.u,.u,.u,.u,.u,.u,.u,.u] [bx,lQ]) (.norm,(st0 [.u,.d (.s 1 (LK .i64 to)),.r (.loc 0) 0,.r (.loc 1) 0,.u,.u,.u,.u,.u,.u,.d (.v (.bool false)),.u,.u,.u,.u,.u,.u,.u,.u] [bx,lQ])):=by
  refine Ex.of (n:=K+60) ?_;clear rX vL t1 t3 sA sV;rw[hbx];unfold aD at*;generalize LK .i64 to=es,LK .i64 ps=l9,ak.map (Ar.d e)=x3,aM.map W.d=x1,fin.map W.d=x2 at*;simp -implicitDefEqProofs[f1029,t2]
 have hz:∀ xs:List W,(bJ qL n to xs 0).map W.d=List.replicate n (.a [.v (.bool false),.s 1 [],.s 1 [],.v (.int .i64 0),.v (.bool false),.v (.int .u64 0),.s 6 [],.s 8 []]):=fun xs=>by
  rw[VU,X30];rfl
 have hn0:(0:Int)<=(n:Int):=by omega
 have hm1:(n:Int)*128<=(most:Int):=by unfold most;omega
 have hm2:(n:Int)<=(most:Int):=by unfold most;omega
 have sM:Ex E1 f1029.body.r.r.r.l (st0 [.u,.d (.s 1 (LK .i64 to)),.r (.loc 0) 0,.r (.loc 1) 0,.u,.u,.u,.u,.u,.u,.d (.v (.bool false)),.u,.u,.u,.u,.u,.u,.u,.u] [bx,lQ]) (.norm,(st0 [.u,.d (.s 1 (LK .i64 to)),.r (.loc 0) 0,.r (.loc 1) 0,.u,.r (.loc 4) 0,.u,.u,.u,.u,.u,.u,.u,.u,.u,.u,.u,.u,.u] [bx,lQ,.row 0 8 ((bJ qL n to aM 0).map W.d),.row 0 8 ((bJ qL n to fin 0).map W.d),eH kk ps sy n n (.d (.n 11))])):=by
  refine Ex.of (n:=60) ?_;clear rX vL t1 t2 t3 sA sV sP;rw[hz,hz,hbx];unfold aD eH lQ at*;generalize LK .i64 to=es,LK .i64 ps=l9,ak.map (Ar.d e)=x3,aM.map W.d=x1,fin.map W.d=x2 at*;simp -implicitDefEqProofs[f1029,hn0,hm1,hm2]
 have sI:Ex E1 f1029.body.r.r.r.r.l.l (st0 [.u,.d (.s 1 (LK .i64 to)),.r (.loc 0) 0,.r (.loc 1) 0,.u,.r (.loc 4) 0,.u,.u,.u,.u,.u,.u,.u,.u,.u,.u,.u,.u,.u] [bx,lQ,.row 0 8 ((bJ qL n to aM 0).map W.d),.row 0 8 ((bJ qL n to fin 0).map W.d),eH kk ps sy n n (.d (.n 11))]) (.norm,Sb to bx (eH kk ps sy n n (.d (.n 11))) ((bJ qL n to aM 0).map W.d) ((bJ qL n to fin 0).map W.d) 0 .u):=by
  refine Ex.of (n:=60) ?_;have nk:(LK .i64 to).length=to.length:=by simp[LK]
  clear rX vL t1 t2 t3 sA sV sP sM hbx;unfold Sb;generalize (bJ qL n to aM 0).map W.d=q1,(bJ qL n to fin 0).map W.d=q2,eH kk ps sy n n (.d (.n 11))=q3 at*;rw[<-nk];generalize LK .i64 to=es at*;simp -implicitDefEqProofs[f1029]
 have sJ:Ex E1 f1029.body.r.r.r.r.r.l.l (Sb to bx (eH kk ps sy n n (.d (.n 11))) ((bJ qL n to aM n).map W.d) ((bJ qL n to fin n).map W.d) n (.d (.v (.bool false)))) (.norm,Dn to (ak.map (Ar.d e)) [bx,lQ,.row 0 8 ((bJ qL n to aM n).map W.d),.row 0 8 ((bJ qL n to fin n).map W.d),eH kk ps sy n n (.d (.n 11))] 0 .u):=by
  refine Ex.of (n:=60) ?_;clear rX vL t1 t2 t3 sA sV sP sM sI;rw[hbx];unfold Sb Dn aD;generalize (bJ qL n to aM n).map W.d=q1,(bJ qL n to fin n).map W.d=q2,eH kk ps sy n n (.d (.n 11))=q3,LK .i64 to=es,LK .i64 ps=l9,ak.map (Ar.d e)=x3,aM.map W.d=x1,fin.map W.d=x2 at*;simp -implicitDefEqProofs[f1029]
 obtain⟨T,rfl⟩:=five ((k0 0 omK).trans rfl) ((k0 1 omK).trans rfl) ((k0 2 omK).trans rfl) ((k0 3 omK).trans rfl) k4;have sE:∃ st',Ex E1 f1029.body.r.r.r.r.r.r (Dn to (ak.map (Ar.d e)) (bx::lQ::.row 0 8 ((bJ qL n to aM n).map W.d)::.row 0 8 ((bJ qL n to fin n).map W.d)::eH kk ps sy n n px::T) ak.length (.d (.v (.bool false)))) (.ret,st')/\finish f1029 st'=some (.d (.t [A,.v (.int .i64 0)]),none):=by
  have la:((bJ qL n to aM n).map W.d).length=n:=by simp[cO]
  have lb:((bJ qL n to fin n).map W.d).length=n:=by simp[cO]
  have lc:((ak.map (Ar.via to)).map (Ar.d e)).length=ak.length:=by simp
  clear rX vL t1 t2 sA sV sP sM sI sJ hz k0 k4 hbx hN hperm hv hin;obtain⟨qa,qb,qc,qd,qf,qg,qh,rfl⟩:=hA;unfold Dn eH uP qW lQ at*;generalize (bJ qL n to aM n).map W.d=q1,(bJ qL n to fin n).map W.d=q2,(ak.map (Ar.via to)).map (Ar.d e)=q3,ak.map (Ar.d e)=x3,LK .i64 to=es,LK .i64 ps=l9,LK .i64 qb=l8 at*;have ta:q1.take n=q1:=by rw[<-la,Qn1]
  have tb:q2.take n=q2:=by rw[<-lb,Qn1]
  rcases ko with ⟨rfl,rfl⟩|⟨i,az,h5,rfl,h7⟩
  ·refine⟨_,Ex.of (n:=K+200) (by simp -implicitDefEqProofs[f1029,t3,la,lb,ta,tb,ae.view,uC];rfl),?_⟩;simp[finish,uC,show f1029.res=[.cell 3 true 7,.var 4] from rfl,show f1029.ref=false from rfl]
  ·obtain⟨i',rfl⟩:∃ i',i=i'+5:=⟨i-5,by omega⟩
   simp only[Xv0]at h7;have il:i'<T.length:=(bD h7)
   have i7:=idx h7;refine⟨_,Ex.of (n:=K+200) (by simp -implicitDefEqProofs[f1029,t3,la,lb,ta,tb,h7,i7,il,ae.view,uC];rfl),?_⟩;simp[finish,uC,show f1029.res=[.cell 3 true 7,.var 4] from rfl,show f1029.ref=false from rfl]
 obtain⟨st',e1,e2⟩:=sE;exact Ca.body (o:=.ret) rfl (k1029:E1.fn _=_) rfl (sA.seq (sV.seq (sP.seq (sM.seq (Ex.seq (sI.seq (Ex.block rX)) (Ex.seq (sJ.seq (Ex.block vL)) e1)))))) (by simp) e2
end
end Fi.S
