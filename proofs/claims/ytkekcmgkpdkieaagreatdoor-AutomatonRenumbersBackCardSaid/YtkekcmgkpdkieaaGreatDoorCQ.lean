import Derived.Test.YtkekcmgkpdkieaaGreatDoorCP
set_option linter.unusedVariables false
set_option linter.unusedSimpArgs false
noncomputable section
namespace Fi
open Go
section
section
variable {E:Env} {α β:Type} {b:aG}
theorem Ex.OH (l:List α)(p:α->Bool)(S:Nat->St)(R F:Out × St)(hR:R.1≠.norm)(hF:F.1≠.norm)
  (round:∀ (j:Nat) (a:α),l[j]?=some a->Ex E b (S j) (if p a then(.norm,S (j+1)) else F)) (last:Ex E b (S l.length) R):Ex E (.loop b) (S 0) (if l.all p then R else F):=by
 have key:∀ (d j:Nat),j+d=l.length->Ex E (.loop b) (S j) (if (l.drop j).all p then R else F):=by
  intro d
  induction d with
  | zero =>
   intro j hj;obtain rfl:j=l.length:=by omega
   rw[Qt1];exact Ex.leave last hR
  | succ d ih =>
   intro j hj;have hlt:j<l.length:=by omega
   have hr:=round j _ (Qa0 hlt);rw[Qj0 hlt,List.all_cons];cases hp:p l[j] with
   | false =>
    rw[hp]at hr;exact Ex.leave hr hF
   | true =>
    rw[hp]at hr;rw[Qs0];exact Ex.next hr (ih (j+1) omK)
 exact key l.length 0 omK
theorem Ex.xh (l:List α)(p:α->Bool)(S:Nat->St)(R:Out × St)(F:Nat->Out × St)(hR:R.1≠.norm)(hF:∀ j,(F j).1≠.norm)
  (round:∀ (j:Nat) (a:α),l[j]?=some a->Ex E b (S j) (if p a then F j else(.norm,S (j+1)))) (last:Ex E b (S l.length) R):Ex E (.loop b) (S 0) (match l.findIdx? p with
   | some j=>F j
   | none=>R):=by
 have key:∀ (d j:Nat),j+d=l.length->(∀ i a,i<j->l[i]?=some a->p a=false)->Ex E (.loop b) (S j) (match l.findIdx? p with
   | some j=>F j
   | none=>R):=by
  intro d
  induction d with
  | zero =>
   intro j hj hno;obtain rfl:j=l.length:=by omega
   have:l.findIdx? p=none:=by
    rw[Xa0];intro x hx;obtain⟨i,hi⟩:=Qy1.1 hx;exact hno i x (bD hi) hi
   rw[this];exact Ex.leave last hR
  | succ d ih =>
   intro j hj hno;have hlt:j<l.length:=by omega
   have hr:=round j _ (Qa0 hlt);cases hp:p l[j] with
   | true =>
    rw[hp]at hr;have:l.findIdx? p=some j:=by
     rw[Qv1];exact⟨hlt,hp,fun i hi=>by rw[hno i _ hi (Qa0 omK)];simp⟩
    rw[this];exact Ex.leave hr (hF j)
   | false =>
    rw[hp]at hr;refine Ex.next hr (ih (j+1) omK (fun i a hi ha => ?_))
    rcases Qg1 i j with h|h
    ·exact hno i a h ha
    ·obtain rfl:i=j:=by omega
     rw[Qa0 hlt]at ha;cases ha;exact hp
 exact key l.length 0 omK (fun i a hi=>by omega)
theorem Ex.fold (l:List α)(f:β->α->β)(z:β)(I:Nat->β->St->Prop)(Q:β->Out × St->Prop)
  (round:∀ (j:Nat) (a:α) (st:St),l[j]?=some a->I j ((l.take j).foldl f z) st->∃ st',Ex E b st (.norm,st')/\I (j+1) (f ((l.take j).foldl f z) a) st')
  (last:∀ st,I l.length (l.foldl f z) st->∃ r,Ex E b st r/\r.1≠.norm/\Q (l.foldl f z) r) {st:St} (h0:I 0 z st):∃ r,Ex E (.loop b) st r/\Q (l.foldl f z) r:=by
 have key:∀ (d j:Nat) (st:St),j+d=l.length->I j ((l.take j).foldl f z) st->∃ r,Ex E (.loop b) st r/\Q (l.foldl f z) r:=by
  intro d
  induction d with
  | zero =>
   intro j st hj hI;obtain rfl:j=l.length:=by omega
   rw[Qn1]at hI;obtain⟨r,h1,h2,h3⟩:=last st hI;exact⟨r,Ex.leave h1 h2,h3⟩
  | succ d ih =>
   intro j st hj hI;have hlt:j<l.length:=by omega
   obtain⟨st',h1,h2⟩:=round j _ st (Qa0 hlt) hI;have h3:(l.take (j+1)).foldl f z=f ((l.take j).foldl f z) l[j]:=by rw[Qp2 hlt,Xp0];rfl
   rw[<-h3]at h2;obtain⟨r,h4,h5⟩:=ih (j+1) st' omK h2;exact⟨r,h1.next h4,h5⟩
 exact key l.length 0 st omK (by simpa using h0)
end
end
end Fi
namespace Fi.S
open Go Fi
set_option maxHeartbeats 8000000
section
structure Ar (α:Type) where
 f:Int
 l:Int
 t:Int
 x:α
def yO (f l t:Int)(s:Bool)(l1 l2:List D)(c:Int)(b:Bool)(u:Int)(p ps:List D):D:=.a [.v (.int .i64 f),.v (.int .i64 l),.v (.int .i64 t),.v (.bool s),.s 1 l1,.s 1 l2,.v (.int .i64 c),.v (.bool b),.v (.int .u64 u),.s 6 p,.s 8 ps]
variable {α:Type}
def Ar.d (e:α->W)(a:Ar α):D:=.a (.v (.int .i64 a.f)::.v (.int .i64 a.l)::.v (.int .i64 a.t)::(e a.x).d.cells)
theorem Ar.jD (e:α->W)(a:Ar α):∃ s l1 l2 c b u p ps,(e a.x).d=wD s l1 l2 c b u p ps/\a.d e=yO a.f a.l a.t s l1 l2 c b u p ps:=by
 obtain⟨s,l1,l2,c,b,u,p,ps,h⟩:=(e a.x).aN;exact⟨s,l1,l2,c,b,u,p,ps,h,by unfold Ar.d yO;rw[h];rfl⟩
def or3 (x y z:Int):Int:=if x=0 then if y=0 then z else y else x
def ng (a b:Ar α):Int:=or3 (iB a.f b.f) (iB a.l b.l) (iB a.t b.t)
theorem acP (n:Nat)(x y z:Int):CL E0 (n+200) 1109 [.d (.s 1 [.v (.int .i64 x),.v (.int .i64 y),.v (.int .i64 z)])] []=some (.d (.v (.int .i64 (or3 x y z))),none):=by
 have w1:ah .i64 1=1:=wrap_i64 omK;have w2:ah .i64 2=2:=wrap_i64 omK;have w3:ah .i64 3=3:=wrap_i64 omK;rw[av rfl (k1109:E0.fn _=_) rfl];unfold or3
 by_cases h1:x=0
 ·subst h1
  by_cases h2:y=0
  ·subst h2
   by_cases h3:z=0
   ·subst h3;simp -implicitDefEqProofs[f1109,aC,w1,w2,w3]
   ·have e3:(z != 0)=true:=by simpa using h3
    simp -implicitDefEqProofs[f1109,aC,w1,w2,w3,e3]
  ·have e2:(y != 0)=true:=by simpa using h2
   simp -implicitDefEqProofs[f1109,aC,w1,w2,w3,e2,h2]
 ·have e1:(x != 0)=true:=by simpa using h1
  simp -implicitDefEqProofs[f1109,aC,w1,w2,w3,e1,h1]
theorem xk (e:α->W)(n:Nat)(a b:Ar α):CL E0 (n+400) 1070 [.d (a.d e),.d (b.d e)] []=some (.d (.v (.int .i64 (ng a b))),none):=by
 obtain⟨s,l1,l2,c,i,u,p,ps,_,ea⟩:=a.jD e;obtain⟨s',l1',l2',c',i',u',p',ps',_,eb⟩:=b.jD e;rw[ea,eb];have c1:=fun m=>nW m a.f b.f
 have c2:=fun m=>nW m a.l b.l
 have c3:=fun m=>nW m a.t b.t
 have t:=fun m=>acP m (iB a.f b.f) (iB a.l b.l) (iB a.t b.t)
 unfold ng;generalize iB a.f b.f=x,iB a.l b.l=y,iB a.t b.t=z at*;generalize or3 x y z=r at*;rw[av rfl (k1070:E0.fn _=_) rfl];unfold yO;simp -implicitDefEqProofs[f1070,c1,c2,c3,t]
end
section
variable {α:Type} {e:α->W}
def inM:aG:=f1208.body.r.bl.lp.r.l.bl.r.bl.lp
def MR (o az n:Nat)(B:List ae)(i j:Nat)(t:FV)(dt:Bool):St :=
 {vars:=[.ls (.old o) az 11 0 n,.d (.v (.int .i64 0)),.d (.v (.int .i64 n)),.d (.fn 1070),.d (.v (.int .i64 i)),.d (.v (.int .i64 j)),.u,t],base:=B,loc:=[],aP:=dt}
theorem Za (o az n:Nat)(B:List ae)(i k:Nat)(dt:Bool)(es:List D)(x y:Ar α)(hB:B[o]?=some (.row az 11 es))(hn:es.length=n)(hn2:n<=1000000)(hx:es[k+1]?=some (x.d e))(hy:es[k]?=some (y.d e))(hlt:ng x y<0) :
  Ex E0 inM (MR o az n B i (k+1) .u dt) (.norm,MR o az n (B.set o (.row az 11 ((es.set (k+1) (y.d e)).set k (x.d e)))) i k .u true):=by
 have t:=fun m=>xk e m x y
 have hol:o<B.length:=(bD hB)
 have hkl:k+1<es.length:=(bD hx)
 have hkn:(k:Int)+1<(n:Int):=by omega
 have hkn2:(k:Int)<(n:Int):=by omega
 have hk0:(0:Int)<=(k:Int):=by omega
 have hk1:(0:Int)<=(k:Int)+1:=by omega
 have hgt:(0:Int)<(k:Int)+1:=by omega
 have tn:((k:Int)+1).toNat=k+1:=by omega
 have hw:ah .i64 (k:Int)=(k:Int):=wrap_i64 omK;have hk2:((k+1:Nat):Int)=(k:Int)+1:=by omega
 have s1:∀ r,(es.set (k+1) r)[k]?=some (y.d e):=fun r=>by rw[Qd0 omK];exact hy
 generalize ng x y=od at*;obtain⟨s,l1,l2,c,b,u,p,ps,_,ex⟩:=x.jD e;obtain⟨s',l1',l2',c',b',u',p',ps',_,ey⟩:=y.jD e;simp only[ex,ey]at t hx hy s1 ⊢;clear ex ey;unfold yO at*;generalize x.f=xf,x.l=xl,x.t=xt,y.f=yf,y.l=yl,y.t=yt at*;have o7:k<es.length:=by omega
 refine Ex.of (n:=500) ?_;unfold MR;rw[hk2];have i1:=idx hx;have i2:=idx hy;have i3:=idx hB;have i4:∀ r (h:k<(es.set (k+1) r).length),(es.set (k+1) r)[k]=_:=fun r h=>idx (s1 r) h
 simp -implicitDefEqProofs[inM,f1208,t,hol,hkl,hkn,hkn2,hk0,hk1,hgt,tn,hw,hB,hx,hy,s1,i1,i2,i3,i4,hlt,o7,hn]
theorem Zb (o az n:Nat)(B:List ae)(i k:Nat)(dt:Bool)(es:List D)(x y:Ar α)(hB:B[o]?=some (.row az 11 es))(hn:es.length=n)(hn2:n<=1000000)(hx:es[k+1]?=some (x.d e))(hy:es[k]?=some (y.d e))(hlt:¬ ng x y<0) :
  Ex E0 inM (MR o az n B i (k+1) .u dt) (.exit 2,MR o az n B i (k+1) (.d (.v (.bool false))) dt):=by
 have t:=fun m=>xk e m x y
 have hol:o<B.length:=(bD hB)
 have hkl:k+1<es.length:=(bD hx)
 have hkn:(k:Int)+1<(n:Int):=by omega
 have hkn2:(k:Int)<(n:Int):=by omega
 have hk0:(0:Int)<=(k:Int):=by omega
 have hk1:(0:Int)<=(k:Int)+1:=by omega
 have hgt:(0:Int)<(k:Int)+1:=by omega
 have tn:((k:Int)+1).toNat=k+1:=by omega
 have hw:ah .i64 (k:Int)=(k:Int):=wrap_i64 omK;have hk2:((k+1:Nat):Int)=(k:Int)+1:=by omega
 generalize ng x y=od at*;have hge:0<=od:=by omega
 obtain⟨s,l1,l2,c,b,u,p,ps,_,ex⟩:=x.jD e;obtain⟨s',l1',l2',c',b',u',p',ps',_,ey⟩:=y.jD e;simp only[ex,ey]at t hx hy ⊢;clear ex ey;unfold yO at*;generalize x.f=xf,x.l=xl,x.t=xt,y.f=yf,y.l=yl,y.t=yt at*;have o7:k<es.length:=by omega
 refine Ex.of (n:=500) ?_;unfold MR;rw[hk2];have i1:=idx hx;have i2:=idx hy;have i3:=idx hB;simp -implicitDefEqProofs[inM,f1208,t,hol,hkl,hkn,hkn2,hk0,hk1,hgt,tn,hw,hB,hx,hy,i1,i2,i3,hlt,o7,hn,hge]
theorem Zc (o az n:Nat)(B:List ae)(i:Nat)(dt:Bool):Ex E0 inM (MR o az n B i 0 .u dt) (.exit 2,MR o az n B i 0 (.d (.v (.bool false))) dt):=by
 refine Ex.of (n:=100) ?_;unfold MR;simp -implicitDefEqProofs[inM,f1208]
end
section
variable {α:Type} {e:α->W}
def dI (x:Ar α)(p:List (Ar α)):Nat->Nat
 | 0=>0
 | j+1=>match p[j]? with
  | some y=>if ng x y<0 then dI x p j else j+1
  | none=>j+1
theorem yP (x:Ar α)(p:List (Ar α)):∀ j,dI x p j<=j
 | 0=>Qd1 _
 | j+1=>by
  unfold dI;split
  ·split
   ·exact Nat.le_succ_of_le (yP x p j)
   ·exact Qd1 _
  ·exact Qd1 _
def rT (x:Ar α)(p:List (Ar α)):List (Ar α):=p.take (dI x p p.length)++x::p.drop (dI x p p.length)
def bq (l:List (Ar α)):List (Ar α):=l.foldl (fun p x=>rT x p) []
theorem Vr (x:Ar α)(p:List (Ar α)):(rT x p).length=p.length+1:=by
 unfold rT;have:=yP x p p.length;simp only[Qb0,Qr1,Qe2,Xd2];omega
theorem zP:∀ (l p:List (Ar α)),(l.foldl (fun p x=>rT x p) p).length=p.length+l.length
 | [],p=>rfl
 | x::l,p=>by rw[Qm0,zP l,Vr];simp;omega
theorem kY (l:List (Ar α)):(bq l).length=l.length:=by
 unfold bq;rw[zP];simp
def K4 (e:α->W)(p q:List (Ar α))(x:Ar α)(j:Nat):List D:=((p.take j++x::p.drop j)++q).map (Ar.d e)
theorem Zd (p q:List (Ar α))(x:Ar α)(j:Nat)(h:j<=p.length):(K4 e p q x j).length=p.length+1+q.length:=by
 unfold K4;simp only[Qk2,Qb0,Qr1,Qe2,Xd2];omega
theorem aaO {p q:List (Ar α)}{x:Ar α}{j:Nat}(h:j<=p.length):(K4 e p q x j)[j]?=some (x.d e):=by
 unfold K4;rw[Qb1,Qo1,Qc1 (by simp[Xm2 h])];simp[Xm2 h]
theorem aaP {p q:List (Ar α)}{x y:Ar α}{j:Nat}(h:p[j]?=some y):(K4 e p q x (j+1))[j]?=some (y.d e):=by
 have hj:=(bD h)
 unfold K4;rw[Qb1,Qo1,Qa1 (by simp;omega),Qp1,if_pos omK,h];rfl
theorem Vs {p q:List (Ar α)}{x y:Ar α}{j:Nat}(h:p[j]?=some y):((K4 e p q x (j+1)).set (j+1) (y.d e)).set j (x.d e)=K4 e p q x j:=by
 obtain⟨hj,hy⟩:=Qu0.1 h;subst hy;unfold K4;rw[Qp2 hj,Qj0 hj];simp only[Qq0,Qd2,Qo1,Q52,Qy0,Qc0];have hl:(List.map (Ar.d e) (List.take j p)).length=j:=by simp;omega
 rw[Q40 _ _ omK,Q40 _ _ omK,hl];simp
theorem OI (o az n i:Nat)(B:List ae)(ho:o<B.length)(p q:List (Ar α))(x:Ar α)(hn:p.length+1+q.length=n)(hn2:n<=1000000):∀ (j:Nat),j<=p.length->∀ dt,∃ Eh,
  Ex E0 (.loop inM) (MR o az n (B.set o (.row az 11 (K4 e p q x j))) i j .u dt) (.exit 2,MR o az n (B.set o (.row az 11 (K4 e p q x (dI x p j)))) i (dI x p j) (.d (.v (.bool false))) Eh)/\(Eh=false->dt=false/\dI x p j=j)
 | 0,_,dt=>⟨dt,Ex.leave (Zc o az n _ i dt) (by simp),fun h=>⟨h,rfl⟩⟩
 | j+1,hj,dt=>by
  have hy:p[j]?=some p[j]:=Qa0 omK;have hl:=Zd (e:=e) p q x (j+1) hj;have hB:(B.set o (.row az 11 (K4 e p q x (j+1))))[o]?=some (.row az 11 (K4 e p q x (j+1))):=Qf0 ho
  by_cases hlt:ng x p[j]<0
  ·have hp:dI x p (j+1)=dI x p j:=by simp only[dI,hy,if_pos hlt]
   rw[hp];have hr:=Za o az n _ i j dt _ x p[j] hB omK hn2 (aaO hj) (aaP hy) hlt;rw[Vs hy,List.set_set]at hr;obtain⟨Eh,h1,h2⟩:=OI o az n i B ho p q x hn hn2 j omK true;exact⟨Eh,hr.next h1,fun h=>absurd (h2 h).1 (by simp)⟩
  ·have hp:dI x p (j+1)=j+1:=by simp only[dI,hy,if_neg hlt]
   rw[hp];exact⟨dt,Ex.leave (Zb o az n _ i j dt _ x p[j] hB omK hn2 (aaO hj) (aaP hy) hlt) (by simp),fun h=>⟨h,rfl⟩⟩
def rU (o az n:Nat)(B:List ae)(i:Nat)(t:FV)(dt:Bool):St :=
 {vars:=[.ls (.old o) az 11 0 n,.d (.v (.int .i64 0)),.d (.v (.int .i64 n)),.d (.fn 1070),.d (.v (.int .i64 i)),.u,t,.u],base:=B,loc:=[],aP:=dt}
def MS:aG:=f1208.body.r.bl.lp
theorem QH (o az n i:Nat)(B:List ae)(ho:o<B.length)(p q:List (Ar α))(x:Ar α)(hp:p.length=i)(hn:p.length+1+q.length=n)(hn2:n<=1000000)(dt:Bool):∃ Eh,
  Ex E0 MS (rU o az n (B.set o (.row az 11 ((p++x::q).map (Ar.d e)))) i .u dt) (.norm,rU o az n (B.set o (.row az 11 ((rT x p++q).map (Ar.d e)))) (i+1) .u Eh)/\(Eh=false->dt=false/\rT x p=p++[x]):=by
 obtain⟨Eh,h1,h2⟩:=OI o az n i B ho p q x hn hn2 p.length (Qd1 _) dt;have e0:K4 e p q x p.length=(p++x::q).map (Ar.d e):=by unfold K4;simp
 have e1:K4 e p q x (dI x p p.length)=(rT x p++q).map (Ar.d e):=rfl;rw[e0,e1]at h1;refine⟨Eh,?_,fun h=>⟨(h2 h).1,by unfold rT;rw[(h2 h).2];simp⟩⟩;have hin:(i:Int)<(n:Int):=by omega
 have hw:ah .i64 ((i:Int)+1)=(i:Int)+1:=wrap_i64 omK;have hi1:((i+1:Nat):Int)=(i:Int)+1:=by omega
 generalize (p++x::q).map (Ar.d e)=e2 at*;generalize (rT x p++q).map (Ar.d e)=e3,dI x p p.length=j2 at*;rw[hp]at h1;refine Ex.seq (st1:=rU o az n (B.set o (.row az 11 e2)) i (.d (.v (.bool true))) dt) (Ex.of (n:=60) (by unfold rU;simp -implicitDefEqProofs[MS,f1208,hin])) ?_;refine Ex.seq (st1:=MR o az n (B.set o (.row az 11 e3)) i j2 (.d (.v (.bool false))) Eh) (Ex.gm (Ex.seq (st1:=MR o az n (B.set o (.row az 11 e2)) i i .u dt) (Ex.of (n:=60) (by unfold rU MR;simp -implicitDefEqProofs[MS,f1208])) (Ex.block h1))) ?_;refine Ex.of (n:=60) ?_;unfold rU MR;rw[hi1];simp -implicitDefEqProofs[MS,f1208,hw]
theorem JP (o az n i:Nat)(B:List ae)(hi:n<=i)(dt:Bool):Ex E0 MS (rU o az n B i .u dt) (.exit 0,rU o az n B i (.d (.v (.bool false))) dt):=by
 refine Ex.of (n:=60) ?_;have hin:¬ (i:Int)<(n:Int):=by omega
 have hin2:(n:Int)<=(i:Int):=by omega
 unfold rU;simp -implicitDefEqProofs[MS,f1208,hin,hin2]
theorem JQ (o az:Nat)(B:List ae)(ho:o<B.length)(l:List (Ar α))(hn2:l.length<=1000000):∀ (d i:Nat),i+d=l.length->∀ dt,∃ Eh,
  Ex E0 (.loop MS) (rU o az l.length (B.set o (.row az 11 ((bq (l.take i)++l.drop i).map (Ar.d e)))) i .u dt) (.exit 0,rU o az l.length (B.set o (.row az 11 ((bq l).map (Ar.d e)))) l.length (.d (.v (.bool false))) Eh) /\
   (Eh=false->dt=false/\bq l=bq (l.take i)++l.drop i)
 | 0,i,hi,dt=>by
  obtain rfl:i=l.length:=by omega
  rw[Qn1,Qt1,Q91];exact⟨dt,Ex.leave (JP o az _ _ _ (Qd1 _) dt) (by simp),fun h=>⟨h,rfl⟩⟩
 | d+1,i,hi,dt=>by
  have hlt:i<l.length:=by omega
  have e1:bq (l.take (i+1))=rT l[i] (bq (l.take i)):=by
   unfold bq;rw[Qp2 hlt,Xp0];rfl
  obtain⟨dt1,h1,h2⟩:=QH o az l.length i B ho (bq (l.take i)) (l.drop (i+1)) l[i] (by rw[kY];simp;omega) (by rw[kY];simp;omega) hn2 dt;rw[<-Qj0 hlt,<-e1]at h1;obtain⟨dt2,h3,h4⟩:=JQ o az B ho l hn2 d (i+1) omK dt1;refine⟨dt2,h1.next h3,fun h => ?_⟩;obtain⟨g1,g2⟩:=h4 h;obtain⟨g3,g4⟩:=h2 g1;refine⟨g3,?_⟩;rw[g2,e1,g4,Qo1,List.singleton_append,<-Qj0 hlt]
def sorted (e:α->W)(o az:Nat)(B:List ae)(l:List (Ar α))(r:FV × Option (List ae)):Prop :=
 (r=(.d (.t []),none)/\bq l=l)\/r=(.d (.t []),some (B.set o (.row az 11 ((bq l).map (Ar.d e)))))
theorem acR (o az:Nat)(B:List ae)(l:List (Ar α))(hB:B[o]?=some (.row az 11 (l.map (Ar.d e))))(hO:∀ n,B.map (ae.aA n)=B)(hn:l.length<=1000000) :
  ∃ r N,(∀ m,CL E0 (N+m) 1208 [.ls (.old o) az 11 0 l.length,.d (.v (.int .i64 0)),.d (.v (.int .i64 l.length)),.d (.fn 1070)] B=some r)/\sorted e o az B l r:=by
 have ho:o<B.length:=(bD hB)
 have hself:B.set o (.row az 11 (l.map (Ar.d e)))=B:=by
  obtain⟨h,e⟩:=Qu0.1 hB;rw[<-e,List.set_getElem_self]
 have hset:∀ n r,(∀ k,ae.aA k r=r)->(B.set o r).map (ae.aA n)=B.set o r:=fun n r hr=>by rw[Qz2,hO,hr]
 obtain⟨dt,st,hrun,hdt,hst⟩:∃ (dt:Bool) (i:Nat),Ex E0 f1208.body (rU o az l.length B 0 .u false |> fun s=>{s with vars:=[.ls (.old o) az 11 0 l.length,.d (.v (.int .i64 0)),.d (.v (.int .i64 l.length)),.d (.fn 1070),.u,.u,.u,.u]}) (.norm,rU o az l.length (B.set o (.row az 11 ((bq l).map (Ar.d e)))) i (.d (.v (.bool false))) dt)/\(dt=false->bq l=l)/\True:=by
  have h0:Ex E0 f1208.body.l (rU o az l.length B 0 .u false |> fun s=>{s with vars:=[.ls (.old o) az 11 0 l.length,.d (.v (.int .i64 0)),.d (.v (.int .i64 l.length)),.d (.fn 1070),.u,.u,.u,.u]}) (.norm,rU o az l.length B 1 .u false):=by
   refine Ex.of (n:=60) ?_;have w1:ah .i64 1=1:=wrap_i64 omK;unfold rU;simp -implicitDefEqProofs[f1208,w1]
  cases l with
  | nil =>
   refine⟨false,1,?_,fun _=>rfl,trivial⟩;have h1:=JP o az 0 1 B omK false;simp only[Qc0]at hself;have e1:(bq ([]:List (Ar α))).map (Ar.d e)=[]:=rfl;rw[e1,hself];exact Ex.seq h0 (Ex.block (Ex.leave h1 (by simp)))
  | cons a l =>
   obtain⟨dt,h1,h2⟩:=JQ o az B ho (a::l) hn l.length 1 (by simp;omega) false;have e1:bq ((a::l).take 1)++(a::l).drop 1=a::l:=by simp[bq,rT,dI]
   rw[e1,hself]at h1;rw[e1]at h2;exact⟨dt,_,Ex.seq h0 (Ex.block h1),fun h=>(h2 h).2,trivial⟩
 obtain⟨N,hN⟩:=pM (E:=E0) (g:=1208) (F:=f1208) (args:=[.ls (.old o) az 11 0 l.length,.d (.v (.int .i64 0)),.d (.v (.int .i64 l.length)),.d (.fn 1070)]) (B:=B) (o:=.norm)
  (r:=if dt then(.d (.t []),some (B.set o (.row az 11 ((bq l).map (Ar.d e))))) else(.d (.t []),none)) rfl (k1208:E0.fn _=_) rfl hrun (by simp) (by
   have hm:=hset (B.set o (.row az 11 ((bq l).map (Ar.d e)))).length (.row az 11 ((bq l).map (Ar.d e))) (fun _=>rfl);cases dt<;>simp[finish,lL,show f1208.res=[] from rfl,show f1208.ref=true from rfl,fZ,oneOf,uC,jV,jZ,rU,FV.aA,hset,ae.aA,hO])
 refine⟨_,N,hN,?_⟩;cases dt with
 | true=>exact .inr rfl
 | false=>exact .inl ⟨rfl,hdt rfl⟩
end
section
variable {α:Type} {e:α->W}
theorem GQ (o az:Nat)(B:List ae)(l:List (Ar α))(hB:B[o]?=some (.row az 11 (l.map (Ar.d e))))(hO:∀ n,B.map (ae.aA n)=B)(hn:l.length<20) :
  ∃ r N,(∀ m,CL E0 (N+m) 1138 [.ls (.old o) az 11 0 l.length,.d (.v (.int .i64 l.length)),.d (.fn 1070)] B=some r)/\sorted e o az B l r:=by
 obtain⟨r,N,t,hs⟩:=acR o az B l hB hO omK;refine⟨r,N+200,fun m => ?_,hs⟩;have h1:¬ (20:Int)<=(l.length:Int):=by omega
 have h2:¬ (20:Int)<(l.length:Int):=by omega
 have h1':(l.length:Int)<20:=by omega
 have h2':(l.length:Int)<=20:=by omega
 have hne:N+200+m=(N+m)+200:=by omega
 have hB0:B≠[]:=by intro h;rw[h]at hB;cases hB
 rw[hne,av rfl (k1138:E0.fn _=_) rfl];replace t:=fun k=>eP (t 0) (show N+0<=N+m+k by omega)
 rcases hs with ⟨rfl,_⟩|rfl
 ·generalize l.length=n at*;simp -implicitDefEqProofs[f1138,aC,t,hO,h1,h2,h1',h2',FV.aA,FV.aR,uC]
 ·have hO1:∀ k,(B.set o (.row az 11 ((bq l).map (Ar.d e)))).map (ae.aA k)=B.set o (.row az 11 ((bq l).map (Ar.d e))):=fun k=>by rw[Qz2,hO];rfl
  have tk:(B.set o (.row az 11 ((bq l).map (Ar.d e)))).take B.length=B.set o (.row az 11 ((bq l).map (Ar.d e))):=Qg0 (by simp);have dp:(B.set o (.row az 11 ((bq l).map (Ar.d e)))).drop B.length=[]:=Xw2 (by simp);generalize B.set o (.row az 11 ((bq l).map (Ar.d e)))=B1,l.length=n at*;simp -implicitDefEqProofs[f1138,aC,t,hB0,hO,hO1,tk,dp,h1,h2,h1',h2',FV.aA,FV.aR,uC]
theorem QI (o az:Nat)(B:List ae)(l:List (Ar α))(hB:B[o]?=some (.row az 11 (l.map (Ar.d e))))(hO:∀ n,B.map (ae.aA n)=B)(hn:l.length<20) :
  ∃ r N,(∀ m,CL E0 (N+m) 1101 [.ls (.old o) az 11 0 l.length,.d (.fn 1070)] B=some r)/\sorted e o az B l r:=by
 obtain⟨r,N,t,hs⟩:=GQ o az B l hB hO hn;refine⟨r,N+200,fun m => ?_,hs⟩;have hne:N+200+m=(N+m)+200:=by omega
 have hB0:B≠[]:=by intro h;rw[h]at hB;cases hB
 rw[hne,av rfl (k1101:E0.fn _=_) rfl];replace t:=fun k=>eP (t 0) (show N+0<=N+m+k by omega)
 rcases hs with ⟨rfl,_⟩|rfl
 ·generalize l.length=n at*;simp -implicitDefEqProofs[f1101,t,hO,FV.aA,FV.aR,uC]
 ·have hO1:∀ k,(B.set o (.row az 11 ((bq l).map (Ar.d e)))).map (ae.aA k)=B.set o (.row az 11 ((bq l).map (Ar.d e))):=fun k=>by rw[Qz2,hO];rfl
  have tk:(B.set o (.row az 11 ((bq l).map (Ar.d e)))).take B.length=B.set o (.row az 11 ((bq l).map (Ar.d e))):=Qg0 (by simp);have dp:(B.set o (.row az 11 ((bq l).map (Ar.d e)))).drop B.length=[]:=Xw2 (by simp);generalize B.set o (.row az 11 ((bq l).map (Ar.d e)))=B1,l.length=n at*;simp -implicitDefEqProofs[f1101,t,hB0,hO,hO1,tk,dp,FV.aA,FV.aR,uC]
end
end Fi.S
namespace Fi.S
open Go Fi
section
section
variable {α:Type}
theorem kv (x y:Int):(iB x y=-1/\x<y)\/(iB x y=0/\x=y)\/(iB x y=1/\y<x):=by
 unfold iB
 by_cases h1:x<y
 ·exact .inl ⟨if_pos h1,h1⟩
 ·by_cases h2:y<x
  ·exact .inr (.inr ⟨by rw[if_neg h1,if_pos h2],h2⟩)
  ·exact .inr (.inl ⟨by rw[if_neg h1,if_neg h2],by omega⟩)
def ky (a b:Ar α):Prop:=a.f<b.f\/a.f=b.f/\(a.l<b.l\/a.l=b.l/\a.t<b.t)
def jw (a b:Ar α):Prop:=a.f=b.f/\a.l=b.l/\a.t=b.t
theorem OJ (a b:Ar α):ng a b<0↔ky a b:=by
 unfold ng or3 ky;rcases kv a.f b.f with ⟨h,h'⟩|⟨h,h'⟩|⟨h,h'⟩<;>rcases kv a.l b.l with ⟨k,k'⟩|⟨k,k'⟩|⟨k,k'⟩<;>rcases kv a.t b.t with ⟨m,m'⟩|⟨m,m'⟩|⟨m,m'⟩<;>simp only[h,k,m]<;>simp<;>omega
theorem GR (a b:Ar α):ng a b=0↔jw a b:=by
 unfold ng or3 jw;rcases kv a.f b.f with ⟨h,h'⟩|⟨h,h'⟩|⟨h,h'⟩<;>rcases kv a.l b.l with ⟨k,k'⟩|⟨k,k'⟩|⟨k,k'⟩<;>rcases kv a.t b.t with ⟨m,m'⟩|⟨m,m'⟩|⟨m,m'⟩<;>simp only[h,k,m]<;>simp<;>omega
theorem jN (a b:Ar α):ky a b\/jw a b\/ky b a:=by unfold ky jw;omega
theorem zQ {a b:Ar α}(h:jw a b):¬ ky a b:=by unfold ky jw at*;omega
theorem oz {a b:Ar α}(h:ky a b):¬ ky b a:=by unfold ky at*;omega
theorem xm {a b:Ar α}(h:ky a b):¬ jw a b:=by unfold ky jw at*;omega
theorem JR {a b:Ar α}(h:ky a b):¬ jw b a:=by unfold ky jw at*;omega
theorem QJ {a b c:Ar α}(h:ky a b)(k:ky b c):ky a c:=by unfold ky at*;omega
theorem afN {a b c:Ar α}(h:¬ ky b a)(k:ky b c):ky a c:=by unfold ky at*;omega
theorem aaQ {a b c:Ar α}(h:ky a b)(k:¬ ky c b):ky a c:=by unfold ky at*;omega
theorem afO {a b c:Ar α}(h:¬ ky b a)(k:¬ ky c b):¬ ky c a:=by unfold ky at*;omega
def lK (pl:α->α->α)(a b:Ar α):Ar α:={a with x:=pl a.x b.x}
theorem GU {pl:α->α->α}{a b c:Ar α}:jw (lK pl a b) c↔jw a c:=Iff.rfl
instance (a b:Ar α):Decidable (ky a b):=by unfold ky;exact inferInstance
instance (a b:Ar α):Decidable (jw a b):=by unfold jw;exact inferInstance
def pO (x:Ar α):List (Ar α)->List (Ar α)
 | []=>[x]
 | y::r=>if ky x y then x::y::r else y::pO x r
def wy (pl:α->α->α)(a:Ar α):List (Ar α)->List (Ar α)
 | []=>[a]
 | b::r=>if jw a b then wy pl (lK pl a b) r else a::wy pl b r
def mg (pl:α->α->α):List (Ar α)->List (Ar α)
 | []=>[]
 | a::r=>wy pl a r
def bQ (pl:α->α->α)(x:Ar α):List (Ar α)->List (Ar α)
 | []=>[x]
 | y::r=>if ky y x then y::bQ pl x r else if jw y x then lK pl y x::r else x::y::r
abbrev Aj (l:List (Ar α)):Prop:=l.Pairwise fun a b=>¬ ky b a
theorem JS (pl:α->α->α):∀ (r:List (Ar α)) (a:Ar α),∃ y t,wy pl a r=y::t/\jw y a
 | [],a=>⟨a,[],rfl,rfl,rfl,rfl⟩
 | b::r,a=>by
  unfold wy;split
  ·obtain⟨y,t,h1,h2⟩:=JS pl r (lK pl a b);exact⟨y,t,h1,h2⟩
  ·exact⟨a,_,rfl,rfl,rfl,rfl⟩
theorem xn {pl:α->α->α}{x:Ar α}(r:List (Ar α)){a:Ar α}(h:ky x a):bQ pl x (wy pl a r)=x::wy pl a r:=by
 obtain⟨y,t,h1,h2⟩:=JS pl r a;have h3:ky x y:=by unfold ky jw at*;omega
 rw[h1,bQ,if_neg (oz h3),if_neg (JR h3)]
theorem GV (pl:α->α->α)(x:Ar α):∀ (r:List (Ar α)) (a:Ar α),Aj (a::r)->¬ ky x a->wy pl a (pO x r)=bQ pl x (wy pl a r)
 | [],a,_,h=>by
  simp only[pO,wy]
  by_cases he:jw a x
  ·rw[if_pos he,bQ,if_neg (zQ he),if_pos he]
  ·have hlt:ky a x:=by
    rcases jN a x with h1|h1|h1
    ·exact h1
    ·exact absurd h1 he
    ·exact absurd h1 h
   rw[if_neg he,bQ,if_pos hlt];rfl
 | b::r,a,hs,h=>by
  obtain⟨hab,hs2⟩:=Qk1.1 hs;have aiI:=hab b (by simp);unfold pO
  by_cases hxb:ky x b
  ·rw[if_pos hxb];have afP:ky a b:=afN h hxb;have e1:wy pl a (b::r)=a::wy pl b r:=by rw[wy,if_neg (xm afP)]
   rw[e1]
   by_cases he:jw a x
   ·have e2:wy pl (lK pl a x) (b::r)=lK pl a x::wy pl b r:=by rw[wy,if_neg (fun h'=>xm afP (GU.1 h'))]
    rw[wy,if_pos he,e2,bQ,if_neg (zQ he),if_pos he]
   ·have hlt:ky a x:=by
     rcases jN a x with h1|h1|h1
     ·exact h1
     ·exact absurd h1 he
     ·exact absurd h1 h
    have e2:wy pl x (b::r)=x::wy pl b r:=by rw[wy,if_neg (xm hxb)]
    rw[wy,if_neg he,e2,bQ,if_pos hlt,xn r hxb]
  ·rw[if_neg hxb]
   by_cases he:jw a b
   ·have hs3:Aj (lK pl a b::r):=Qk1.2 ⟨fun c hc=>hab c (by simp[hc]),(Qk1.1 hs2).2⟩;rw[wy,if_pos he,GV pl x r (lK pl a b) hs3 h,wy,if_pos he]
   ·have hlt:ky a b:=by
     rcases jN a b with h1|h1|h1
     ·exact h1
     ·exact absurd h1 he
     ·exact absurd h1 aiI
    rw[wy,if_neg he,GV pl x r b hs2 hxb,wy,if_neg he,bQ,if_pos (aaQ hlt hxb)]
theorem acT (pl:α->α->α)(x:Ar α):∀ (s:List (Ar α)),Aj s->mg pl (pO x s)=bQ pl x (mg pl s)
 | [],_=>rfl
 | a::r,hs=>by
  unfold pO
  by_cases h:ky x a
  ·rw[if_pos h]
   change wy pl x (a::r)=bQ pl x (wy pl a r)
   rw[xn r h,wy,if_neg (xm h)]
  ·rw[if_neg h];exact GV pl x r a hs h
theorem JU {x:Ar α}:∀ {s:List (Ar α)} {y:Ar α},y ∈ pO x s->y=x\/y ∈ s
 | [],y,h=>by simp[pO]at h;exact .inl h
 | a::r,y,h=>by
  unfold pO at h;split at h
  ·simpa using h
  ·rcases Qi1.1 h with h|h
   ·exact .inr (by simp[h])
   ·rcases JU h with h|h
    ·exact .inl h
    ·exact .inr (by simp[h])
theorem CU (x:Ar α):∀ {s:List (Ar α)},Aj s->Aj (pO x s)
 | [],_=>by simp[pO,Aj]
 | a::r,hs=>by
  obtain⟨h1,h2⟩:=Qk1.1 hs;unfold pO;split
  ·rename_i h;refine Qk1.2 ⟨fun c hc => ?_,hs⟩;rcases Qi1.1 hc with rfl|hc
   ·exact oz h
   ·exact oz (aaQ h (h1 c hc))
  ·rename_i h;refine Qk1.2 ⟨fun c hc => ?_,CU x h2⟩;rcases JU hc with rfl|hc
   ·exact h
   ·exact h1 c hc
theorem CW (x:Ar α)(v:List (Ar α))(hv:∀ y,v.head?=some y->ky x y):∀ (u:List (Ar α)),(∀ y ∈ u,¬ ky x y)->pO x (u++v)=u++x::v
 | [],_=>by
  cases v with
  | nil=>rfl
  | cons y r=>simp only[Qy0,pO];rw[if_pos (hv y rfl)]
 | a::u,h=>by
  rw[Q52,pO,if_neg (h a (by simp)),CW x v hv u (fun y hy=>h y (by simp[hy]))];rfl
theorem zR (x:Ar α)(p:List (Ar α)):∀ j,j<=p.length->(∀ i y,dI x p j<=i->i<j->p[i]?=some y->ky x y)/\(∀ y,0<dI x p j->p[dI x p j-1]?=some y->¬ ky x y)
 | 0,_=>⟨fun i y h1 h2=>by omega,fun y h=>by simp[dI]at h⟩
 | j+1,hj=>by
  have hy:p[j]?=some p[j]:=Qa0 omK;obtain⟨h1,h2⟩:=zR x p j omK
  by_cases hlt:ng x p[j]<0
  ·have hp:dI x p (j+1)=dI x p j:=by simp only[dI,hy,if_pos hlt]
   rw[hp];refine⟨fun i y g1 g2 g3 => ?_,h2⟩;rcases Qg1 i j with h|h
   ·exact h1 i y g1 h g3
   ·obtain rfl:i=j:=by omega
    rw[hy]at g3;cases g3;exact(OJ _ _).1 hlt
  ·have hp:dI x p (j+1)=j+1:=by simp only[dI,hy,if_neg hlt]
   rw[hp];refine⟨fun i y g1 g2=>by omega,fun y _ g => ?_⟩;simp only[Q12]at g;rw[hy]at g;cases g;exact fun h=>hlt ((OJ _ _).2 h)
theorem Ze (x:Ar α){p:List (Ar α)}(hs:Aj p):rT x p=pO x p:=by
 obtain⟨h1,h2⟩:=zR x p p.length (Qd1 _);have hle:=yP x p p.length;generalize hk:dI x p p.length=k at*;have:=CW x (p.drop k) (fun y hy=>by
  rw[List.head?_drop]at hy;exact h1 k y (Qd1 _) (bD hy) hy) (p.take k) (fun y hy=>by
  obtain⟨i,hi⟩:=Qy1.1 hy;rw[Qp1]at hi;split at hi
  ·rename_i hik;have hlast:p[k-1]?=some p[k-1]:=Qa0 omK;have h3:=h2 p[k-1] omK hlast;rcases Qg1 i (k-1) with h|h
   ·have hii:=(Qu0.1 hi)
    have h4:=Xe2.1 hs i (k-1) hii.1 omK h;rw[hii.2]at h4;exact afO h4 h3
   ·obtain rfl:i=k-1:=by omega
    rw[hlast]at hi;cases hi;exact h3
  ·cases hi)
 rw[Xe0]at this;unfold rT;rw[hk,this]
theorem C8:∀ (l p:List (Ar α)),Aj p->l.foldl (fun p x=>rT x p) p=l.foldl (fun p x=>pO x p) p/\Aj (l.foldl (fun p x=>pO x p) p)
 | [],p,h=>⟨rfl,h⟩
 | x::l,p,h=>by
  rw[Qm0,Qm0,Ze x h];exact C8 l _ (CU x h)
theorem Vt (pl:α->α->α):∀ (l p:List (Ar α)),Aj p->mg pl (l.foldl (fun p x=>pO x p) p)=l.foldl (fun p x=>bQ pl x p) (mg pl p)
 | [],p,h=>rfl
 | x::l,p,h=>by
  rw[Qm0,Qm0,Vt pl l _ (CU x h),acT pl x p h]
def eQ (pl:α->α->α)(l:List (Ar α)):List (Ar α):=l.foldl (fun p x=>bQ pl x p) []
theorem Zf (pl:α->α->α)(l:List (Ar α)):mg pl (bq l)=eQ pl l:=by
 unfold bq eQ;rw[(C8 l [] (by simp[Aj])).1];exact Vt pl l [] (by simp[Aj])
def kz (pl:α->α->α)(out:List (Ar α))(x:Ar α):List (Ar α) :=
 match out.getLast? with
 | some y=>if jw y x then out.dropLast++[lK pl y x] else out++[x]
 | none=>[x]
theorem kZ (pl:α->α->α)(p:List (Ar α))(y x:Ar α):kz pl (p++[y]) x=if jw y x then p++[lK pl y x] else p++[y]++[x]:=by
 unfold kz;simp
theorem rV (pl:α->α->α):∀ (r p:List (Ar α)) (a:Ar α),r.foldl (kz pl) (p++[a])=p++wy pl a r
 | [],p,a=>rfl
 | b::r,p,a=>by
  rw[Qm0,kZ,wy];split
  ·exact rV pl r p _
  ·rw[rV pl r (p++[a]) b,Qo1];rfl
theorem Zg (pl:α->α->α)(s:List (Ar α)):s.foldl (kz pl) []=mg pl s:=by
 cases s with
 | nil=>rfl
 | cons a r =>
  rw[Qm0];exact rV pl r [] a
end
end
section
variable {α:Type}
structure Wts (kk:Int)(ps:List Int)(e:α->W)(pl:α->α->α)(z:W)(fo:α->Bool)(G:Nat->α->Prop)(m:Nat):Prop where
 mono:∀ n x,G n x->G (n+1) x
 zero:Ca E1 26 [.d (bA kk ps)] (.d z.d,none)
 pz:∀ x,G 1 x->Ca E1 14 [.d (bA kk ps),.d (e x).d,.d z.d] (.d (e x).d,none)
 tk:∀ x,G 1 x->Ca E1 53 [.d (bA kk ps),.d (e x).d] (.d (e x).d,none)
 p1:∀ n x y,n<m->G n x->G 1 y->Ca E1 14 [.d (bA kk ps),.d (e x).d,.d (e y).d] (.d (e (pl x y)).d,none)
 p2:∀ n x y,n<m->G n x->G 1 y->Ca E1 19 [.d (bA kk ps),.d (e x).d,.d (e y).d] (.d (e (pl x y)).d,none)
 pg:∀ n x y,n<m->G n x->G 1 y->G (n+1) (pl x y)
 z1:∀ n x,n<=m->G n x->Ca E1 1104 [.d (bA kk ps),.d (e x).d] (.d (.v (.bool (fo x))),none)
 z2:∀ n x,n<=m->G n x->Ca E1 1126 [.d (bA kk ps),.d (e x).d] (.d (.v (.bool (fo x))),none)
theorem Wts.up {kk:Int}{ps:List Int}{e:α->W}{pl:α->α->α}{z:W}{fo:α->Bool}{G:Nat->α->Prop}{m:Nat}(h:Wts kk ps e pl z fo G m){x:α}(hx:G 1 x):∀ n,G (n+1) x
 | 0=>hx
 | n+1=>h.mono _ _ (h.up hx n)
theorem C9 (pl:α->α->α)(x:Ar α):∀ aq:List (Ar α),(bQ pl x aq).length<=aq.length+1
 | []=>by simp[bQ]
 | a::aq=>by
  unfold bQ;have:=C9 pl x aq;split
  ·simp;omega
  ·split<;>simp
theorem pQ (pl:α->α->α)(x:Ar α)(P Q:Ar α->Prop)(hx:Q x)(hPQ:∀ y,P y->Q y)(hpl:∀ y,P y->Q (lK pl y x)):∀ aq:List (Ar α),(∀ y ∈ aq,P y)->∀ y ∈ bQ pl x aq,Q y
 | [],_,y,hy=>by simp[bQ]at hy;subst hy;exact hx
 | a::aq,h,y,hy=>by
  unfold bQ at hy;split at hy
  ·rcases Qi1.1 hy with rfl|hy
   ·exact hPQ _ (h _ (by simp))
   ·exact pQ pl x P Q hx hPQ hpl aq (fun y hy=>h y (by simp[hy])) y hy
  ·split at hy
   ·rcases Qi1.1 hy with rfl|hy
    ·exact hpl _ (h _ (by simp))
    ·exact hPQ _ (h _ (by simp[hy]))
   ·rcases Qi1.1 hy with rfl|hy
    ·exact hx
    ·exact hPQ _ (h _ hy)
theorem MU (pl:α->α->α)(x:Ar α)(P Q:Ar α->Prop)(hx:Q x)(hPQ:∀ y,P y->Q y)(hpl:∀ y,P y->Q (lK pl y x))(aq:List (Ar α))(h:∀ y ∈ aq,P y):∀ y ∈ kz pl aq x,Q y:=by
 intro y hy;rcases Xa1 aq with rfl|⟨q,a,rfl⟩
 ·simp[kz]at hy;subst hy;exact hx
 ·rw[Q32]at*;rw[kZ]at hy;split at hy
  ·rcases Qw2.1 hy with hy|hy
   ·exact hPQ _ (h _ (by simp[hy]))
   ·simp at hy;subst hy;exact hpl _ (h _ (by simp))
  ·rcases Qw2.1 hy with hy|hy
   ·exact hPQ _ (h _ hy)
   ·simp at hy;subst hy;exact hx
theorem MV (pl:α->α->α)(x:Ar α)(aq:List (Ar α)):(kz pl aq x).length<=aq.length+1:=by
 rcases Xa1 aq with rfl|⟨q,a,rfl⟩
 ·simp[kz]
 ·rw[Q32,kZ];split<;>simp
theorem Vu {x:Ar α}{p:List (Ar α)}{y:Ar α}(h:y ∈ rT x p):y=x\/y ∈ p:=by
 unfold rT at h;rcases Qw2.1 h with h|h
 ·exact .inr (Qp0 h)
 ·rcases Qi1.1 h with h|h
  ·exact .inl h
  ·exact .inr (Q21 h)
theorem zS:∀ (l p:List (Ar α)) {y:Ar α},y ∈ l.foldl (fun p x=>rT x p) p->y ∈ p\/y ∈ l
 | [],p,y,h=>.inl h
 | x::l,p,y,h=>by
  rw[Qm0]at h;rcases zS l _ h with h|h
  ·rcases Vu h with h|h
   ·exact .inr (by simp[h])
   ·exact .inl h
  ·exact .inr (by simp[h])
theorem JV {l:List (Ar α)}{y:Ar α}(h:y ∈ bq l):y ∈ l:=by
 rcases zS l [] h with h|h
 ·simp at h
 ·exact h
end
end Fi.S
noncomputable section
namespace Fi.S
open Go Fi
set_option maxHeartbeats 8000000
set_option maxRecDepth 10000
theorem QK {k:Int}(hk:single k=true){S T M M':Nat}(hS:1<=S)(hT:1<=T){x y:Sv}(hx:x.of k S M)(hy:y.of k T M'):(dB k x y).of k (S+T+1) (M+M'):=by
 rcases aO hk with rfl|rfl|rfl|rfl|rfl
 ·obtain⟨a,rfl,h1⟩:=wX hx;obtain⟨b,rfl,h2⟩:=wX hy;refine⟨.inl rfl,?_⟩;have:=oV a b;show qz (a+b)<=_;omega
 ·obtain⟨a,n,rfl,h1⟩:=wY hx;obtain⟨b,m,rfl,h2⟩:=wY hy;show Sv.of 2 _ _ (if nA b m a n then .c b m else .c a n);split
  ·exact hy
  ·exact hx
 ·obtain⟨a,rfl,h1⟩:=wZ hx;obtain⟨b,rfl,h2⟩:=wZ hy;show Sv.of 3 _ _ (if a<b then .q b else .q a);split
  ·exact Sv.of.mono hy omK omK
  ·exact Sv.of.mono hx omK omK
 ·obtain⟨a,rfl,h1⟩:=w9 hx;obtain⟨b,rfl,h2⟩:=w9 hy;exact⟨rfl,Y1 a b⟩
 ·obtain⟨a,rfl,h1,h2⟩:=w_ hx;obtain⟨b,rfl,h3,h4⟩:=w_ hy;exact⟨rfl,gI hS hT h1 h3,Qc2 (zG a b) (Nat.add_le_add h2 h4)⟩
theorem C_ {S T M M':Nat}(hS:1<=S)(hT:1<=T){ps:List Int}(hs:∀ k ∈ ps,single k=true){xs ys:List Sv}(hx:gU S M ps xs)(hy:gU T M' ps ys):gU (S+T+1) (M+M') ps (bL ps xs ys):=by
 refine⟨by simp[bL,hx.1,hy.1],fun i k z hk hz => ?_⟩;obtain⟨k',x,y,h1,h2,h3,rfl⟩:=gM hz;rw[hk]at h1;cases h1;exact QK (hs k (Qa2 hk)) hS hT (hx.2 i k x hk h2) (hy.2 i k y hk h3)
def aW (kk:Int)(ps:List Int):List Sv:=(dz kk ps).map dF
def Fw (kk:Int)(ps:List Int):List Sv:=(dz kk ps).map oq
def Et (kk:Int)(ps:List Int)(xs:List Sv):Bool:=(bS kk xs).eq (bS kk (aW kk ps))
theorem Vv {kk:Int}{ps:List Int}(hv:aJ kk ps=true){S M:Nat}{xs:List Sv}(hS:S<=1000)(hx:gU S M (dz kk ps) xs) :
  Ca E1 1104 [.d (bA kk ps),.d (bS kk xs).d] (.d (.v (.bool (Et kk ps xs))),none)/\Ca E1 1126 [.d (bA kk ps),.d (bS kk xs).d] (.d (.v (.bool (Et kk ps xs))),none):=by
 have ok1:=JJ hv hS hx;have ok0:(bS kk (aW kk ps)).OK:=JJ hv (S:=1) (M:=1) omK (kr omK (aQ hv));obtain⟨K,hK,a1,a2,a3,a4⟩:=((Ca.fP (jF _ ok1 _ ok0)).j ((Ca.fP (yE _ ok1 _ ok0)).j ((Fu hv).j ((AX hv).any)))).at 0;unfold Et;rw[show(dz kk ps).map dF=aW kk ps from rfl]at a3 a4;generalize (bS kk xs).eq (bS kk (aW kk ps))=b at*;obtain⟨xs',xl1,xl2,xc,xb,xu,xp,xq,ex⟩:=(bS kk xs).aN;obtain⟨zs,GA,GD,zc,zb,zu,zp,zq,ez⟩:=(bS kk (aW kk ps)).aN;simp only[ex,ez]at*;clear ok1 ok0 hx ex ez hv;unfold wD bA at*;generalize LK .i64 ps=l9 at*;refine⟨?_,?_⟩
 ·refine Ca.bO (n:=K+100) ?_;rw[av rfl (k1104:E1.fn _=_) rfl];simp -implicitDefEqProofs[f1104,a1,a3]
 ·refine Ca.bO (n:=K+100) ?_;rw[av rfl (k1126:E1.fn _=_) rfl];simp -implicitDefEqProofs[f1126,a2,a4]
end Fi.S
