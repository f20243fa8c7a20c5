import Derived.Test.YtbbogkfadofneaaGreatDoorCP
set_option linter.unusedVariables false
set_option linter.unusedSimpArgs false
noncomputable section
namespace Fi
open Go
section
section
variable {E:Env} {α β:Type} {b:aF}
theorem Ex.Ze (l:List α)(p:α->Bool)(S:Nat->St)(R F:Out × St)(hR:R.1≠.norm)(hF:F.1≠.norm)
  (round:∀ (j:Nat) (a:α),l[j]?=some a->Ex E b (S j) (if p a then(.norm,S (j+1)) else F)) (last:Ex E b (S l.length) R):Ex E (.loop b) (S 0) (if l.all p then R else F):=by
 have key:∀ (d j:Nat),j+d=l.length->Ex E (.loop b) (S j) (if (l.drop j).all p then R else F):=by
  intro d
  induction d with
  | zero =>
   intro j hj;obtain rfl:j=l.length:=ae;rw[Qu2];exact Ex.leave last hR
  | succ d ih =>
   intro j hj;have hlt:j<l.length:=ae;have hr:=round j _ (Qa1 hlt);rw[Qk1 hlt,X42];cases hp:p l[j] with
   | false =>
    rw[hp]at hr;exact Ex.leave hr hF
   | true =>
    rw[hp]at hr;rw[Qr2];exact Ex.next hr (ih (j+1) ae)
 exact key l.length 0 ae
theorem Ex.wW (l:List α)(p:α->Bool)(S:Nat->St)(R:Out × St)(F:Nat->Out × St)(hR:R.1≠.norm)(hF:∀ j,(F j).1≠.norm)
  (round:∀ (j:Nat) (a:α),l[j]?=some a->Ex E b (S j) (if p a then F j else(.norm,S (j+1)))) (last:Ex E b (S l.length) R):Ex E (.loop b) (S 0) (match l.findIdx? p with
   | some j=>F j
   | none=>R):=by
 have key:∀ (d j:Nat),j+d=l.length->(∀ i a,i<j->l[i]?=some a->p a=false)->Ex E (.loop b) (S j) (match l.findIdx? p with
   | some j=>F j
   | none=>R):=by
  intro d
  induction d with
  | zero =>
   intro j hj hno;obtain rfl:j=l.length:=ae;have:l.findIdx? p=none:=by
    rw[Xf0];intro x hx;obtain⟨i,hi⟩:=Xh2.1 hx;exact hno i x (bq hi) hi
   rw[this];exact Ex.leave last hR
  | succ d ih =>
   intro j hj hno;have hlt:j<l.length:=ae;have hr:=round j _ (Qa1 hlt);cases hp:p l[j] with
   | true =>
    rw[hp]at hr;have:l.findIdx? p=some j:=by
     rw[Qs0];exact⟨hlt,hp,fun i hi=>by rw[hno i _ hi (Qa1 ae)];simp⟩
    rw[this];exact Ex.leave hr (hF j)
   | false =>
    rw[hp]at hr;refine Ex.next hr (ih (j+1) ae (fun i a hi ha => ?_))
    rcases Qg1 i j with h|h
    ·exact hno i a h ha
    ·obtain rfl:i=j:=ae;rw[Qa1 hlt]at ha;cases ha;exact hp
 exact key l.length 0 ae (fun i a hi=>by omega)
theorem Ex.fold (l:List α)(f:β->α->β)(z:β)(I:Nat->β->St->Prop)(Q:β->Out × St->Prop)
  (round:∀ (j:Nat) (a:α) (st:St),l[j]?=some a->I j ((l.take j).foldl f z) st->∃ st',Ex E b st (.norm,st')/\I (j+1) (f ((l.take j).foldl f z) a) st')
  (last:∀ st,I l.length (l.foldl f z) st->∃ r,Ex E b st r/\r.1≠.norm/\Q (l.foldl f z) r) {st:St} (h0:I 0 z st):∃ r,Ex E (.loop b) st r/\Q (l.foldl f z) r:=by
 have key:∀ (d j:Nat) (st:St),j+d=l.length->I j ((l.take j).foldl f z) st->∃ r,Ex E (.loop b) st r/\Q (l.foldl f z) r:=by
  intro d
  induction d with
  | zero =>
   intro j st hj hI;obtain rfl:j=l.length:=ae;rw[Qn0]at hI;obtain⟨r,h1,h2,h3⟩:=last st hI;exact⟨r,Ex.leave h1 h2,h3⟩
  | succ d ih =>
   intro j st hj hI;have hlt:j<l.length:=ae;obtain⟨st',h1,h2⟩:=round j _ st (Qa1 hlt) hI;have h3:(l.take (j+1)).foldl f z=f ((l.take j).foldl f z) l[j]:=by rw[Qj1 hlt,Xj1];rfl
   rw[<-h3]at h2;obtain⟨r,h4,h5⟩:=ih (j+1) st' ae h2;exact⟨r,h1.next h4,h5⟩
 exact key l.length 0 st ae (by simpa using h0)
end
end
end Fi
namespace Fi.S
open Go Fi
set_option maxHeartbeats 8000000
section
structure Ar (α:Type) where
 f:Int
 l:Int
 t:Int
 x:α
def tX (f l t:Int)(s:Bool)(l1 l2:List D)(c:Int)(b:Bool)(u:Int)(p ps:List D):D:=.a [vI f,vI l,vI t,vB s,.s 1 l1,.s 1 l2,vI c,vB b,.v (.int .u64 u),.s 6 p,.s 8 ps]
variable {α:Type}
def Ar.d (e:α->W)(a:Ar α):D:=.a (vI a.f::vI a.l::vI a.t::(e a.x).d.cells)
theorem Ar.gD (e:α->W)(a:Ar α):∃ s l1 l2 c b u p ps,(e a.x).d=wD s l1 l2 c b u p ps/\a.d e=tX a.f a.l a.t s l1 l2 c b u p ps:=by
 obtain⟨s,l1,l2,c,b,u,p,ps,h⟩:=(e a.x).aN;exact⟨s,l1,l2,c,b,u,p,ps,h,by unfold Ar.d tX;rw[h];rfl⟩
def Zf (x y z:Int):Int:=if x=0 then if y=0 then z else y else x
def kX (a b:Ar α):Int:=Zf (fG a.f b.f) (fG a.l b.l) (fG a.t b.t)
theorem acU (n:Nat)(x y z:Int):CL E0 (n+200) 1109 [.d (.s 1 [vI x,vI y,vI z])] []=some (dI (Zf x y z),none):=by
 have w1:ai .i64 1=1:=wrap_i64 ae;have w2:ai .i64 2=2:=wrap_i64 ae;have w3:ai .i64 3=3:=wrap_i64 ae;rw[av rfl (aM 1109 f1109:E0.fn _=_) rfl];unfold Zf
 by_cases h1:x=0
 ·subst h1
  by_cases h2:y=0
  ·subst h2
   by_cases h3:z=0
   ·subst h3;simp[f1109,aC,w1,w2,w3]
   ·have e3:(z != 0)=true:=by simpa using h3
    simp[f1109,aC,w1,w2,w3,e3]
  ·have e2:(y != 0)=true:=by simpa using h2
   simp[f1109,aC,w1,w2,w3,e2,h2]
 ·have e1:(x != 0)=true:=by simpa using h1
  simp[f1109,aC,w1,w2,w3,e1,h1]
theorem Cu (e:α->W)(n:Nat)(a b:Ar α):CL E0 (n+400) 1070 [.d (a.d e),.d (b.d e)] []=some (dI (kX a b),none):=by
 obtain⟨s,l1,l2,c,i,u,p,ps,_,ea⟩:=a.gD e;obtain⟨s',l1',l2',c',i',u',p',ps',_,eb⟩:=b.gD e;rw[ea,eb];have c1:=fun m=>ou m a.f b.f
 have c2:=fun m=>ou m a.l b.l
 have c3:=fun m=>ou m a.t b.t
 have t:=fun m=>acU m (fG a.f b.f) (fG a.l b.l) (fG a.t b.t)
 unfold kX;generalize fG a.f b.f=x,fG a.l b.l=y,fG a.t b.t=z at*;generalize Zf x y z=r at*;rw[av rfl (aM 1070 f1070:E0.fn _=_) rfl];unfold tX;simp[f1070,c1,c2,c3,t]
end
section
variable {α:Type} {e:α->W}
def inM:aF:=f1208.body.r.bl.lp.r.l.bl.r.bl.lp
def MC (o ak n:Nat)(B:List ah)(i j:Nat)(t:FV)(dt:Bool):St :=
 {vars:=[.ls (.old o) ak 11 0 n,dI 0,dI n,.d (.fn 1070),dI i,dI j,.u,t],base:=B,loc:=[],aS:=dt}
theorem Zg (o ak n:Nat)(B:List ah)(i k:Nat)(dt:Bool)(es:List D)(x y:Ar α)(hB:B[o]?=some (.row ak 11 es))(hn:es.length=n)(hn2:n<=1000000)(hx:es[k+1]?=some (x.d e))(hy:es[k]?=some (y.d e))(hlt:kX x y<0) :
  Ex E0 inM (MC o ak n B i (k+1) .u dt) (.norm,MC o ak n (B.set o (.row ak 11 ((es.set (k+1) (y.d e)).set k (x.d e)))) i k .u true):=by
 have t:=fun m=>Cu e m x y
 have hol:o<B.length:=(bq hB)
 have hkl:k+1<es.length:=(bq hx)
 have hkn:(k:Int)+1<(n:Int):=ae;have hkn2:(k:Int)<(n:Int):=ae;have hk0:(0:Int)<=(k:Int):=ae;have hk1:(0:Int)<=(k:Int)+1:=ae;have hgt:(0:Int)<(k:Int)+1:=ae;have tn:((k:Int)+1).toNat=k+1:=ae;have hw:ai .i64 (k:Int)=(k:Int):=wrap_i64 ae;have hk2:((k+1:Nat):Int)=(k:Int)+1:=ae;have s1:∀ r,(es.set (k+1) r)[k]?=some (y.d e):=fun r=>by rw[Qd0 ae];exact hy
 generalize kX x y=od at*;obtain⟨s,l1,l2,c,b,u,p,ps,_,ex⟩:=x.gD e;obtain⟨s',l1',l2',c',b',u',p',ps',_,ey⟩:=y.gD e;simp only[ex,ey]at t hx hy s1 ⊢;clear ex ey;unfold tX at*;generalize x.f=xf,x.l=xl,x.t=xt,y.f=yf,y.l=yl,y.t=yt at*;have pE:k<es.length:=ae;refine Ex.of (n:=500) ?_;unfold MC;rw[hk2];have i1:=idx hx;have i2:=idx hy;have i3:=idx hB;have i4:∀ r (h:k<(es.set (k+1) r).length),(es.set (k+1) r)[k]=_:=fun r h=>idx (s1 r) h
 simp[inM,f1208,t,hol,hkl,hkn,hkn2,hk0,hk1,hgt,tn,hw,hB,hx,hy,s1,i1,i2,i3,i4,hlt,pE,hn]
theorem Zh (o ak n:Nat)(B:List ah)(i k:Nat)(dt:Bool)(es:List D)(x y:Ar α)(hB:B[o]?=some (.row ak 11 es))(hn:es.length=n)(hn2:n<=1000000)(hx:es[k+1]?=some (x.d e))(hy:es[k]?=some (y.d e))(hlt:¬ kX x y<0) :
  Ex E0 inM (MC o ak n B i (k+1) .u dt) (.exit 2,MC o ak n B i (k+1) (dB false) dt):=by
 have t:=fun m=>Cu e m x y
 have hol:o<B.length:=(bq hB)
 have hkl:k+1<es.length:=(bq hx)
 have hkn:(k:Int)+1<(n:Int):=ae;have hkn2:(k:Int)<(n:Int):=ae;have hk0:(0:Int)<=(k:Int):=ae;have hk1:(0:Int)<=(k:Int)+1:=ae;have hgt:(0:Int)<(k:Int)+1:=ae;have tn:((k:Int)+1).toNat=k+1:=ae;have hw:ai .i64 (k:Int)=(k:Int):=wrap_i64 ae;have hk2:((k+1:Nat):Int)=(k:Int)+1:=ae;generalize kX x y=od at*;have hge:0<=od:=ae;obtain⟨s,l1,l2,c,b,u,p,ps,_,ex⟩:=x.gD e;obtain⟨s',l1',l2',c',b',u',p',ps',_,ey⟩:=y.gD e;simp only[ex,ey]at t hx hy ⊢;clear ex ey;unfold tX at*;generalize x.f=xf,x.l=xl,x.t=xt,y.f=yf,y.l=yl,y.t=yt at*;have pE:k<es.length:=ae;refine Ex.of (n:=500) ?_;unfold MC;rw[hk2];have i1:=idx hx;have i2:=idx hy;have i3:=idx hB;simp[inM,f1208,t,hol,hkl,hkn,hkn2,hk0,hk1,hgt,tn,hw,hB,hx,hy,i1,i2,i3,hlt,pE,hn,hge]
theorem Zi (o ak n:Nat)(B:List ah)(i:Nat)(dt:Bool):Ex E0 inM (MC o ak n B i 0 .u dt) (.exit 2,MC o ak n B i 0 (dB false) dt):=by
 refine Ex.of (n:=100) ?_;unfold MC;simp[inM,f1208]
end
section
variable {α:Type} {e:α->W}
def dL (x:Ar α)(p:List (Ar α)):Nat->Nat
 | 0=>0
 | j+1=>match p[j]? with
  | some y=>if kX x y<0 then dL x p j else j+1
  | none=>j+1
theorem yE (x:Ar α)(p:List (Ar α)):∀ j,dL x p j<=j
 | 0=>Qd1 _
 | j+1=>by
  unfold dL;split
  ·split
   ·exact Nat.le_succ_of_le (yE x p j)
   ·exact Qd1 _
  ·exact Qd1 _
def rR (x:Ar α)(p:List (Ar α)):List (Ar α):=p.take (dL x p p.length)++x::p.drop (dL x p p.length)
def bA (l:List (Ar α)):List (Ar α):=l.foldl (fun p x=>rR x p) []
theorem Vl (x:Ar α)(p:List (Ar α)):(rR x p).length=p.length+1:=by
 unfold rR;have:=yE x p p.length;simp only[Qb0,Qr0,Qg0,Xd1];omega
theorem zH:∀ (l p:List (Ar α)),(l.foldl (fun p x=>rR x p) p).length=p.length+l.length
 | [],p=>rfl
 | x::l,p=>by rw[Qj2,zH l,Vl];simp;omega
theorem kY (l:List (Ar α)):(bA l).length=l.length:=by
 unfold bA;rw[zH];simp
def KO (e:α->W)(p q:List (Ar α))(x:Ar α)(j:Nat):List D:=((p.take j++x::p.drop j)++q).map (Ar.d e)
theorem Zj (p q:List (Ar α))(x:Ar α)(j:Nat)(h:j<=p.length):(KO e p q x j).length=p.length+1+q.length:=by
 unfold KO;simp only[Ql0,Qb0,Qr0,Qg0,Xd1];omega
theorem aaO {p q:List (Ar α)}{x:Ar α}{j:Nat}(h:j<=p.length):(KO e p q x j)[j]?=some (x.d e):=by
 unfold KO;rw[Qb2,Qp0,Qc0 (by simp[Xr1 h])];simp[Xr1 h]
theorem aaP {p q:List (Ar α)}{x y:Ar α}{j:Nat}(h:p[j]?=some y):(KO e p q x (j+1))[j]?=some (y.d e):=by
 have hj:=(bq h)
 unfold KO;rw[Qb2,Qp0,Qa0 (by simp;omega),Qo2,if_pos ae,h];rfl
theorem Vm {p q:List (Ar α)}{x y:Ar α}{j:Nat}(h:p[j]?=some y):((KO e p q x (j+1)).set (j+1) (y.d e)).set j (x.d e)=KO e p q x j:=by
 obtain⟨hj,hy⟩:=Qw2.1 h;subst hy;unfold KO;rw[Qj1 hj,Qk1 hj];simp only[Qp2,Qe2,Qp0,Xa2,Qw0,Qc1];have hl:(List.map (Ar.d e) (List.take j p)).length=j:=by simp;omega
 rw[Q30 _ _ ae,Q30 _ _ ae,hl];simp
theorem Ou (o ak n i:Nat)(B:List ah)(ho:o<B.length)(p q:List (Ar α))(x:Ar α)(hn:p.length+1+q.length=n)(hn2:n<=1000000):∀ (j:Nat),j<=p.length->∀ dt,∃ DZ,
  Ex E0 (.loop inM) (MC o ak n (B.set o (.row ak 11 (KO e p q x j))) i j .u dt) (.exit 2,MC o ak n (B.set o (.row ak 11 (KO e p q x (dL x p j)))) i (dL x p j) (dB false) DZ)/\(DZ=false->dt=false/\dL x p j=j)
 | 0,_,dt=>⟨dt,Ex.leave (Zi o ak n _ i dt) aA,fun h=>⟨h,rfl⟩⟩
 | j+1,hj,dt=>by
  have hy:p[j]?=some p[j]:=Qa1 ae;have hl:=Zj (e:=e) p q x (j+1) hj;have hB:(B.set o (.row ak 11 (KO e p q x (j+1))))[o]?=some (.row ak 11 (KO e p q x (j+1))):=Qf0 ho
  by_cases hlt:kX x p[j]<0
  ·have hp:dL x p (j+1)=dL x p j:=by simp only[dL,hy,if_pos hlt]
   rw[hp];have hr:=Zg o ak n _ i j dt _ x p[j] hB ae hn2 (aaO hj) (aaP hy) hlt;rw[Vm hy,List.set_set]at hr;obtain⟨DZ,h1,h2⟩:=Ou o ak n i B ho p q x hn hn2 j ae true;exact⟨DZ,hr.next h1,fun h=>absurd (h2 h).1 aA⟩
  ·have hp:dL x p (j+1)=j+1:=by simp only[dL,hy,if_neg hlt]
   rw[hp];exact⟨dt,Ex.leave (Zh o ak n _ i j dt _ x p[j] hB ae hn2 (aaO hj) (aaP hy) hlt) aA,fun h=>⟨h,rfl⟩⟩
def rT (o ak n:Nat)(B:List ah)(i:Nat)(t:FV)(dt:Bool):St :=
 {vars:=[.ls (.old o) ak 11 0 n,dI 0,dI n,.d (.fn 1070),dI i,.u,t,.u],base:=B,loc:=[],aS:=dt}
def ME:aF:=f1208.body.r.bl.lp
theorem Qv (o ak n i:Nat)(B:List ah)(ho:o<B.length)(p q:List (Ar α))(x:Ar α)(hp:p.length=i)(hn:p.length+1+q.length=n)(hn2:n<=1000000)(dt:Bool):∃ DZ,
  Ex E0 ME (rT o ak n (B.set o (.row ak 11 ((p++x::q).map (Ar.d e)))) i .u dt) (.norm,rT o ak n (B.set o (.row ak 11 ((rR x p++q).map (Ar.d e)))) (i+1) .u DZ)/\(DZ=false->dt=false/\rR x p=p++[x]):=by
 obtain⟨DZ,h1,h2⟩:=Ou o ak n i B ho p q x hn hn2 p.length (Qd1 _) dt;have e0:KO e p q x p.length=(p++x::q).map (Ar.d e):=by unfold KO;simp
 have e1:KO e p q x (dL x p p.length)=(rR x p++q).map (Ar.d e):=rfl;rw[e0,e1]at h1;refine⟨DZ,?_,fun h=>⟨(h2 h).1,by unfold rR;rw[(h2 h).2];simp⟩⟩;have hin:(i:Int)<(n:Int):=ae;have hw:ai .i64 ((i:Int)+1)=(i:Int)+1:=wrap_i64 ae;have hi1:((i+1:Nat):Int)=(i:Int)+1:=ae;generalize (p++x::q).map (Ar.d e)=e2 at*;generalize (rR x p++q).map (Ar.d e)=e3,dL x p p.length=j2 at*;rw[hp]at h1;refine Ex.seq (st1:=rT o ak n (B.set o (.row ak 11 e2)) i (dB true) dt) (Ex.of (n:=60) (by unfold rT;simp[ME,f1208,hin])) ?_;refine Ex.seq (st1:=MC o ak n (B.set o (.row ak 11 e3)) i j2 (dB false) DZ) (Ex.gp (Ex.seq (st1:=MC o ak n (B.set o (.row ak 11 e2)) i i .u dt) (Ex.of (n:=60) (by unfold rT MC;simp[ME,f1208])) (Ex.block h1))) ?_;apply e6;unfold rT MC;rw[hi1];simp[ME,f1208,hw]
theorem JC (o ak n i:Nat)(B:List ah)(hi:n<=i)(dt:Bool):Ex E0 ME (rT o ak n B i .u dt) (.exit 0,rT o ak n B i (dB false) dt):=by
 apply e6;have hin:¬ (i:Int)<(n:Int):=ae;have hin2:(n:Int)<=(i:Int):=ae;unfold rT;simp[ME,f1208,hin,hin2]
theorem JD (o ak:Nat)(B:List ah)(ho:o<B.length)(l:List (Ar α))(hn2:l.length<=1000000):∀ (d i:Nat),i+d=l.length->∀ dt,∃ DZ,
  Ex E0 (.loop ME) (rT o ak l.length (B.set o (.row ak 11 ((bA (l.take i)++l.drop i).map (Ar.d e)))) i .u dt) (.exit 0,rT o ak l.length (B.set o (.row ak 11 ((bA l).map (Ar.d e)))) l.length (dB false) DZ) /\
   (DZ=false->dt=false/\bA l=bA (l.take i)++l.drop i)
 | 0,i,hi,dt=>by
  obtain rfl:i=l.length:=ae;rw[Qn0,Qu2,Q10];exact⟨dt,Ex.leave (JC o ak _ _ _ (Qd1 _) dt) aA,fun h=>⟨h,rfl⟩⟩
 | d+1,i,hi,dt=>by
  have hlt:i<l.length:=ae;have e1:bA (l.take (i+1))=rR l[i] (bA (l.take i)):=by
   unfold bA;rw[Qj1 hlt,Xj1];rfl
  obtain⟨dt1,h1,h2⟩:=Qv o ak l.length i B ho (bA (l.take i)) (l.drop (i+1)) l[i] (by rw[kY];simp;omega) (by rw[kY];simp;omega) hn2 dt;rw[<-Qk1 hlt,<-e1]at h1;obtain⟨dt2,h3,h4⟩:=JD o ak B ho l hn2 d (i+1) ae dt1;refine⟨dt2,h1.next h3,fun h => ?_⟩;obtain⟨g1,g2⟩:=h4 h;obtain⟨g3,g4⟩:=h2 g1;refine⟨g3,?_⟩;rw[g2,e1,g4,Qp0,List.singleton_append,<-Qk1 hlt]
def sorted (e:α->W)(o ak:Nat)(B:List ah)(l:List (Ar α))(r:FV × Option (List ah)):Prop :=
 (r=(.d (.t []),none)/\bA l=l)\/r=(.d (.t []),some (B.set o (.row ak 11 ((bA l).map (Ar.d e)))))
theorem acW (o ak:Nat)(B:List ah)(l:List (Ar α))(hB:B[o]?=some (.row ak 11 (l.map (Ar.d e))))(hO:∀ n,B.map (ah.az n)=B)(hn:l.length<=1000000) :
  ∃ r N,(∀ m,CL E0 (N+m) 1208 [.ls (.old o) ak 11 0 l.length,dI 0,dI l.length,.d (.fn 1070)] B=some r)/\sorted e o ak B l r:=by
 have ho:o<B.length:=(bq hB)
 have hself:B.set o (.row ak 11 (l.map (Ar.d e)))=B:=by
  obtain⟨h,e⟩:=Qw2.1 hB;rw[<-e,List.set_getElem_self]
 have hset:∀ n r,(∀ k,ah.az k r=r)->(B.set o r).map (ah.az n)=B.set o r:=fun n r hr=>by rw[Q62,hO,hr]
 obtain⟨dt,st,hrun,hdt,hst⟩:∃ (dt:Bool) (i:Nat),Ex E0 f1208.body (rT o ak l.length B 0 .u false |> fun s=>{s with vars:=(.ls (.old o) ak 11 0 l.length::dI 0::dI l.length::.d (.fn 1070)::vR)}) (.norm,rT o ak l.length (B.set o (.row ak 11 ((bA l).map (Ar.d e)))) i (dB false) dt)/\(dt=false->bA l=l)/\True:=by
  have h0:Ex E0 f1208.body.l (rT o ak l.length B 0 .u false |> fun s=>{s with vars:=(.ls (.old o) ak 11 0 l.length::dI 0::dI l.length::.d (.fn 1070)::vR)}) (.norm,rT o ak l.length B 1 .u false):=by
   apply e6;have w1:ai .i64 1=1:=wrap_i64 ae;unfold rT;simp[f1208,w1]
  cases l with
  | nil =>
   refine⟨false,1,?_,fun _=>rfl,trivial⟩;have h1:=JC o ak 0 1 B ae false;simp only[Qc1]at hself;have e1:(bA ([]:List (Ar α))).map (Ar.d e)=[]:=rfl;rw[e1,hself];exact Ex.seq h0 (Ex.block (Ex.leave h1 aA))
  | cons a l =>
   obtain⟨dt,h1,h2⟩:=JD o ak B ho (a::l) hn l.length 1 (by simp;omega) false;have e1:bA ((a::l).take 1)++(a::l).drop 1=a::l:=by simp[bA,rR,dL]
   rw[e1,hself]at h1;rw[e1]at h2;exact⟨dt,_,Ex.seq h0 (Ex.block h1),fun h=>(h2 h).2,trivial⟩
 obtain⟨N,hN⟩:=pR (E:=E0) (g:=1208) (F:=f1208) (args:=[.ls (.old o) ak 11 0 l.length,dI 0,dI l.length,.d (.fn 1070)]) (B:=B) (o:=.norm)
  (r:=if dt then(.d (.t []),some (B.set o (.row ak 11 ((bA l).map (Ar.d e))))) else(.d (.t []),none)) rfl (k1208:E0.fn _=_) rfl hrun aA (by
   have hm:=hset (B.set o (.row ak 11 ((bA l).map (Ar.d e)))).length (.row ak 11 ((bA l).map (Ar.d e))) (fun _=>rfl);cases dt<;>simp[finish,lL,show f1208.res=[] from rfl,show f1208.ref=true from rfl,fI,oneOf,uz,jU,jY,rT,FV.az,hset,ah.az,hO])
 refine⟨_,N,hN,?_⟩;cases dt with
 | true=>exact .inr rfl
 | false=>exact .inl ⟨rfl,hdt rfl⟩
end
section
variable {α:Type} {e:α->W}
theorem GK (o ak:Nat)(B:List ah)(l:List (Ar α))(hB:B[o]?=some (.row ak 11 (l.map (Ar.d e))))(hO:∀ n,B.map (ah.az n)=B)(hn:l.length<20) :
  ∃ r N,(∀ m,CL E0 (N+m) 1138 [.ls (.old o) ak 11 0 l.length,dI l.length,.d (.fn 1070)] B=some r)/\sorted e o ak B l r:=by
 obtain⟨r,N,t,hs⟩:=acW o ak B l hB hO ae;refine⟨r,N+200,fun m => ?_,hs⟩;have h1:¬ (20:Int)<=(l.length:Int):=ae;have h2:¬ (20:Int)<(l.length:Int):=ae;have h1':(l.length:Int)<20:=ae;have h2':(l.length:Int)<=20:=ae;have hne:N+200+m=(N+m)+200:=ae;have hB0:B≠[]:=by intro h;rw[h]at hB;cases hB
 rw[hne,av rfl (k1138:E0.fn _=_) rfl];replace t:=fun k=>eT (t 0) (show N+0<=N+m+k by omega)
 rcases hs with ⟨rfl,_⟩|rfl
 ·generalize l.length=n at*;simp[f1138,aC,t,hO,h1,h2,h1',h2',FV.az,FV.aP,uz]
 ·have hO1:∀ k,(B.set o (.row ak 11 ((bA l).map (Ar.d e)))).map (ah.az k)=B.set o (.row ak 11 ((bA l).map (Ar.d e))):=fun k=>by rw[Q62,hO];rfl
  have tk:(B.set o (.row ak 11 ((bA l).map (Ar.d e)))).take B.length=B.set o (.row ak 11 ((bA l).map (Ar.d e))):=Qe1 aA;have dp:(B.set o (.row ak 11 ((bA l).map (Ar.d e)))).drop B.length=[]:=Xx0 aA;generalize B.set o (.row ak 11 ((bA l).map (Ar.d e)))=B1,l.length=n at*;simp[f1138,aC,t,hB0,hO,hO1,tk,dp,h1,h2,h1',h2',FV.az,FV.aP,uz]
theorem Qw (o ak:Nat)(B:List ah)(l:List (Ar α))(hB:B[o]?=some (.row ak 11 (l.map (Ar.d e))))(hO:∀ n,B.map (ah.az n)=B)(hn:l.length<20) :
  ∃ r N,(∀ m,CL E0 (N+m) 1101 [.ls (.old o) ak 11 0 l.length,.d (.fn 1070)] B=some r)/\sorted e o ak B l r:=by
 obtain⟨r,N,t,hs⟩:=GK o ak B l hB hO hn;refine⟨r,N+200,fun m => ?_,hs⟩;have hne:N+200+m=(N+m)+200:=ae;have hB0:B≠[]:=by intro h;rw[h]at hB;cases hB
 rw[hne,av rfl (k1101:E0.fn _=_) rfl];replace t:=fun k=>eT (t 0) (show N+0<=N+m+k by omega)
 rcases hs with ⟨rfl,_⟩|rfl
 ·generalize l.length=n at*;simp[f1101,t,hO,FV.az,FV.aP,uz]
 ·have hO1:∀ k,(B.set o (.row ak 11 ((bA l).map (Ar.d e)))).map (ah.az k)=B.set o (.row ak 11 ((bA l).map (Ar.d e))):=fun k=>by rw[Q62,hO];rfl
  have tk:(B.set o (.row ak 11 ((bA l).map (Ar.d e)))).take B.length=B.set o (.row ak 11 ((bA l).map (Ar.d e))):=Qe1 aA;have dp:(B.set o (.row ak 11 ((bA l).map (Ar.d e)))).drop B.length=[]:=Xx0 aA;generalize B.set o (.row ak 11 ((bA l).map (Ar.d e)))=B1,l.length=n at*;simp[f1101,t,hB0,hO,hO1,tk,dp,FV.az,FV.aP,uz]
end
section
section
variable {α:Type}
theorem gF (x y:Int):(fG x y=-1/\x<y)\/(fG x y=0/\x=y)\/(fG x y=1/\y<x):=by
 unfold fG
 by_cases h1:x<y
 ·exact .inl ⟨if_pos h1,h1⟩
 ·by_cases h2:y<x
  ·exact .inr (.inr ⟨by rw[if_neg h1,if_pos h2],h2⟩)
  ·exact .inr (.inl ⟨by rw[if_neg h1,if_neg h2],ae⟩)
def jN (a b:Ar α):Prop:=a.f<b.f\/a.f=b.f/\(a.l<b.l\/a.l=b.l/\a.t<b.t)
def nC (a b:Ar α):Prop:=a.f=b.f/\a.l=b.l/\a.t=b.t
theorem GL (a b:Ar α):kX a b<0↔jN a b:=by
 unfold kX Zf jN;rcases gF a.f b.f with ⟨h,h'⟩|⟨h,h'⟩|⟨h,h'⟩<;>rcases gF a.l b.l with ⟨k,k'⟩|⟨k,k'⟩|⟨k,k'⟩<;>rcases gF a.t b.t with ⟨m,m'⟩|⟨m,m'⟩|⟨m,m'⟩<;>simp only[h,k,m]<;>simp<;>omega
theorem AL (a b:Ar α):kX a b=0↔nC a b:=by
 unfold kX Zf nC;rcases gF a.f b.f with ⟨h,h'⟩|⟨h,h'⟩|⟨h,h'⟩<;>rcases gF a.l b.l with ⟨k,k'⟩|⟨k,k'⟩|⟨k,k'⟩<;>rcases gF a.t b.t with ⟨m,m'⟩|⟨m,m'⟩|⟨m,m'⟩<;>simp only[h,k,m]<;>simp<;>omega
theorem mQ (a b:Ar α):jN a b\/nC a b\/jN b a:=by unfold jN nC;omega
theorem zI {a b:Ar α}(h:nC a b):¬ jN a b:=by unfold jN nC at*;omega
theorem yF {a b:Ar α}(h:jN a b):¬ jN b a:=by unfold jN at*;omega
theorem AO {a b:Ar α}(h:jN a b):¬ nC a b:=by unfold jN nC at*;omega
theorem Vn {a b:Ar α}(h:jN a b):¬ nC b a:=by unfold jN nC at*;omega
theorem afN {a b c:Ar α}(h:¬ jN b a)(k:jN b c):jN a c:=by unfold jN at*;omega
theorem aaQ {a b c:Ar α}(h:jN a b)(k:¬ jN c b):jN a c:=by unfold jN at*;omega
theorem afO {a b c:Ar α}(h:¬ jN b a)(k:¬ jN c b):¬ jN c a:=by unfold jN at*;omega
def iX (pl:α->α->α)(a b:Ar α):Ar α:={a with x:=pl a.x b.x}
theorem Zk {pl:α->α->α}{a b c:Ar α}:nC (iX pl a b) c↔nC a c:=Iff.rfl
instance (a b:Ar α):Decidable (jN a b):=by unfold jN;exact inferInstance
instance (a b:Ar α):Decidable (nC a b):=by unfold nC;exact inferInstance
def pV (x:Ar α):List (Ar α)->List (Ar α)
 | []=>[x]
 | y::r=>if jN x y then x::y::r else y::pV x r
def vS (pl:α->α->α)(a:Ar α):List (Ar α)->List (Ar α)
 | []=>[a]
 | b::r=>if nC a b then vS pl (iX pl a b) r else a::vS pl b r
def mg (pl:α->α->α):List (Ar α)->List (Ar α)
 | []=>[]
 | a::r=>vS pl a r
def bH (pl:α->α->α)(x:Ar α):List (Ar α)->List (Ar α)
 | []=>[x]
 | y::r=>if jN y x then y::bH pl x r else if nC y x then iX pl y x::r else x::y::r
abbrev Ab (l:List (Ar α)):Prop:=l.Pairwise fun a b=>¬ jN b a
theorem JE (pl:α->α->α):∀ (r:List (Ar α)) (a:Ar α),∃ y t,vS pl a r=y::t/\nC y a
 | [],a=>⟨a,[],rfl,rfl,rfl,rfl⟩
 | b::r,a=>by
  unfold vS;split
  ·obtain⟨y,t,h1,h2⟩:=JE pl r (iX pl a b);exact⟨y,t,h1,h2⟩
  ·exact⟨a,_,rfl,rfl,rfl,rfl⟩
theorem wX {pl:α->α->α}{x:Ar α}(r:List (Ar α)){a:Ar α}(h:jN x a):bH pl x (vS pl a r)=x::vS pl a r:=by
 obtain⟨y,t,h1,h2⟩:=JE pl r a;have h3:jN x y:=by unfold jN nC at*;omega
 rw[h1,bH,if_neg (yF h3),if_neg (Vn h3)]
theorem GM (pl:α->α->α)(x:Ar α):∀ (r:List (Ar α)) (a:Ar α),Ab (a::r)->¬ jN x a->vS pl a (pV x r)=bH pl x (vS pl a r)
 | [],a,_,h=>by
  simp only[pV,vS]
  by_cases he:nC a x
  ·rw[if_pos he,bH,if_neg (zI he),if_pos he]
  ·have hlt:jN a x:=by
    rcases mQ a x with h1|h1|h1
    ·exact h1
    ·exact absurd h1 he
    ·exact absurd h1 h
   rw[if_neg he,bH,if_pos hlt];rfl
 | b::r,a,hs,h=>by
  obtain⟨hab,hs2⟩:=Qq1.1 hs;have aiP:=hab b aA;unfold pV
  by_cases hxb:jN x b
  ·rw[if_pos hxb];have afP:jN a b:=afN h hxb;have e1:vS pl a (b::r)=a::vS pl b r:=by rw[vS,if_neg (AO afP)]
   rw[e1]
   by_cases he:nC a x
   ·have e2:vS pl (iX pl a x) (b::r)=iX pl a x::vS pl b r:=by rw[vS,if_neg (fun h'=>AO afP (Zk.1 h'))]
    rw[vS,if_pos he,e2,bH,if_neg (zI he),if_pos he]
   ·have hlt:jN a x:=by
     rcases mQ a x with h1|h1|h1
     ·exact h1
     ·exact absurd h1 he
     ·exact absurd h1 h
    have e2:vS pl x (b::r)=x::vS pl b r:=by rw[vS,if_neg (AO hxb)]
    rw[vS,if_neg he,e2,bH,if_pos hlt,wX r hxb]
  ·rw[if_neg hxb]
   by_cases he:nC a b
   ·have hs3:Ab (iX pl a b::r):=Qq1.2 ⟨fun c hc=>hab c (by simp[hc]),(Qq1.1 hs2).2⟩;rw[vS,if_pos he,GM pl x r (iX pl a b) hs3 h,vS,if_pos he]
   ·have hlt:jN a b:=by
     rcases mQ a b with h1|h1|h1
     ·exact h1
     ·exact absurd h1 he
     ·exact absurd h1 aiP
    rw[vS,if_neg he,GM pl x r b hs2 hxb,vS,if_neg he,bH,if_pos (aaQ hlt hxb)]
theorem acX (pl:α->α->α)(x:Ar α):∀ (s:List (Ar α)),Ab s->mg pl (pV x s)=bH pl x (mg pl s)
 | [],_=>rfl
 | a::r,hs=>by
  unfold pV
  by_cases h:jN x a
  ·rw[if_pos h]
   change vS pl x (a::r)=bH pl x (vS pl a r)
   rw[wX r h,vS,if_neg (AO h)]
  ·rw[if_neg h];exact GM pl x r a hs h
theorem JF {x:Ar α}:∀ {s:List (Ar α)} {y:Ar α},y ∈ pV x s->y=x\/y ∈ s
 | [],y,h=>by simp[pV]at h;exact .inl h
 | a::r,y,h=>by
  unfold pV at h;split at h
  ·simpa using h
  ·rcases Qi2.1 h with h|h
   ·exact .inr (by simp[h])
   ·rcases JF h with h|h
    ·exact .inl h
    ·exact .inr (by simp[h])
theorem Cv (x:Ar α):∀ {s:List (Ar α)},Ab s->Ab (pV x s)
 | [],_=>by simp[pV,Ab]
 | a::r,hs=>by
  obtain⟨h1,h2⟩:=Qq1.1 hs;unfold pV;split
  ·rename_i h;refine Qq1.2 ⟨fun c hc => ?_,hs⟩;rcases Qi2.1 hc with rfl|hc
   ·exact yF h
   ·exact yF (aaQ h (h1 c hc))
  ·rename_i h;refine Qq1.2 ⟨fun c hc => ?_,Cv x h2⟩;rcases JF hc with rfl|hc
   ·exact h
   ·exact h1 c hc
theorem Cw (x:Ar α)(v:List (Ar α))(hv:∀ y,v.head?=some y->jN x y):∀ (u:List (Ar α)),(∀ y ∈ u,¬ jN x y)->pV x (u++v)=u++x::v
 | [],_=>by
  cases v with
  | nil=>rfl
  | cons y r=>simp only[Qw0,pV];rw[if_pos (hv y rfl)]
 | a::u,h=>by
  rw[Xa2,pV,if_neg (h a aA),Cw x v hv u (fun y hy=>h y (by simp[hy]))];rfl
theorem zJ (x:Ar α)(p:List (Ar α)):∀ j,j<=p.length->(∀ i y,dL x p j<=i->i<j->p[i]?=some y->jN x y)/\(∀ y,0<dL x p j->p[dL x p j-1]?=some y->¬ jN x y)
 | 0,_=>⟨fun i y h1 h2=>by omega,fun y h=>by simp[dL]at h⟩
 | j+1,hj=>by
  have hy:p[j]?=some p[j]:=Qa1 ae;obtain⟨h1,h2⟩:=zJ x p j ae
  by_cases hlt:kX x p[j]<0
  ·have hp:dL x p (j+1)=dL x p j:=by simp only[dL,hy,if_pos hlt]
   rw[hp];refine⟨fun i y g1 g2 g3 => ?_,h2⟩;rcases Qg1 i j with h|h
   ·exact h1 i y g1 h g3
   ·obtain rfl:i=j:=ae;rw[hy]at g3;cases g3;exact(GL _ _).1 hlt
  ·have hp:dL x p (j+1)=j+1:=by simp only[dL,hy,if_neg hlt]
   rw[hp];refine⟨fun i y g1 g2=>by omega,fun y _ g => ?_⟩;simp only[Q02]at g;rw[hy]at g;cases g;exact fun h=>hlt ((GL _ _).2 h)
theorem Zl (x:Ar α){p:List (Ar α)}(hs:Ab p):rR x p=pV x p:=by
 obtain⟨h1,h2⟩:=zJ x p p.length (Qd1 _);have hle:=yE x p p.length;generalize hk:dL x p p.length=k at*;have:=Cw x (p.drop k) (fun y hy=>by
  rw[List.head?_drop]at hy;exact h1 k y (Qd1 _) (bq hy) hy) (p.take k) (fun y hy=>by
  obtain⟨i,hi⟩:=Xh2.1 hy;rw[Qo2]at hi;split at hi
  ·rename_i hik;have hlast:p[k-1]?=some p[k-1]:=Qa1 ae;have h3:=h2 p[k-1] ae hlast;rcases Qg1 i (k-1) with h|h
   ·have hii:=(Qw2.1 hi)
    have h4:=List.pairwise_iff_getElem.1 hs i (k-1) hii.1 ae h;rw[hii.2]at h4;exact afO h4 h3
   ·obtain rfl:i=k-1:=ae;rw[hlast]at hi;cases hi;exact h3
  ·cases hi)
 rw[Xe0]at this;unfold rR;rw[hk,this]
theorem Cy:∀ (l p:List (Ar α)),Ab p->l.foldl (fun p x=>rR x p) p=l.foldl (fun p x=>pV x p) p/\Ab (l.foldl (fun p x=>pV x p) p)
 | [],p,h=>⟨rfl,h⟩
 | x::l,p,h=>by
  rw[Qj2,Qj2,Zl x h];exact Cy l _ (Cv x h)
theorem Vo (pl:α->α->α):∀ (l p:List (Ar α)),Ab p->mg pl (l.foldl (fun p x=>pV x p) p)=l.foldl (fun p x=>bH pl x p) (mg pl p)
 | [],p,h=>rfl
 | x::l,p,h=>by
  rw[Qj2,Qj2,Vo pl l _ (Cv x h),acX pl x p h]
def dK (pl:α->α->α)(l:List (Ar α)):List (Ar α):=l.foldl (fun p x=>bH pl x p) []
theorem Zm (pl:α->α->α)(l:List (Ar α)):mg pl (bA l)=dK pl l:=by
 unfold bA dK;rw[(Cy l [] (by simp[Ab])).1];exact Vo pl l [] (by simp[Ab])
def ko (pl:α->α->α)(out:List (Ar α))(x:Ar α):List (Ar α) :=
 match out.getLast? with
 | some y=>if nC y x then out.dropLast++[iX pl y x] else out++[x]
 | none=>[x]
theorem kZ (pl:α->α->α)(p:List (Ar α))(y x:Ar α):ko pl (p++[y]) x=if nC y x then p++[iX pl y x] else p++[y]++[x]:=by
 unfold ko;simp
theorem rU (pl:α->α->α):∀ (r p:List (Ar α)) (a:Ar α),r.foldl (ko pl) (p++[a])=p++vS pl a r
 | [],p,a=>rfl
 | b::r,p,a=>by
  rw[Qj2,kZ,vS];split
  ·exact rU pl r p _
  ·rw[rU pl r (p++[a]) b,Qp0];rfl
theorem Zn (pl:α->α->α)(s:List (Ar α)):s.foldl (ko pl) []=mg pl s:=by
 cases s with
 | nil=>rfl
 | cons a r =>
  rw[Qj2];exact rU pl r [] a
end
end
section
variable {α:Type}
structure RV (kk:Int)(ps:List Int)(e:α->W)(pl:α->α->α)(z:W)(dP:α->Bool)(G:Nat->α->Prop)(m:Nat):Prop where
 mono:∀ n x,G n x->G (n+1) x
 zero:Ca E1 26 [.d (aT kk ps)] (.d z.d,none)
 pz:∀ x,G 1 x->Ca E1 14 [.d (aT kk ps),.d (e x).d,.d z.d] (.d (e x).d,none)
 tk:∀ x,G 1 x->Ca E1 53 [.d (aT kk ps),.d (e x).d] (.d (e x).d,none)
 p1:∀ n x y,n<m->G n x->G 1 y->Ca E1 14 [.d (aT kk ps),.d (e x).d,.d (e y).d] (.d (e (pl x y)).d,none)
 p2:∀ n x y,n<m->G n x->G 1 y->Ca E1 19 [.d (aT kk ps),.d (e x).d,.d (e y).d] (.d (e (pl x y)).d,none)
 pg:∀ n x y,n<m->G n x->G 1 y->G (n+1) (pl x y)
 z1:∀ n x,n<=m->G n x->Ca E1 1104 [.d (aT kk ps),.d (e x).d] (dB (dP x),none)
 z2:∀ n x,n<=m->G n x->Ca E1 1126 [.d (aT kk ps),.d (e x).d] (dB (dP x),none)
theorem RV.up {kk:Int}{ps:List Int}{e:α->W}{pl:α->α->α}{z:W}{dP:α->Bool}{G:Nat->α->Prop}{m:Nat}(h:RV kk ps e pl z dP G m){x:α}(hx:G 1 x):∀ n,G (n+1) x
 | 0=>hx
 | n+1=>h.mono _ _ (h.up hx n)
def yG (x:Ar α)(aq:List (Ar α)):Nat:=(aq.findIdx? fun y => !decide (jN y x)).getD aq.length
theorem Zo (x:Ar α)(aq:List (Ar α)):yG x aq<=aq.length:=by
 unfold yG;cases h:aq.findIdx? (fun y => !decide (jN y x)) with
 | none=>exact Qd1 _
 | some k =>
  rw[Qs0]at h;exact Nat.le_of_lt h.1
theorem Fh (x a:Ar α)(aq:List (Ar α)):yG x (a::aq)=if jN a x then yG x aq+1 else 0:=by
 unfold yG;rw[Xt2]
 by_cases h:jN a x
 ·simp only[h,decide_true,Xi2,Qh1,if_false,if_true];cases aq.findIdx? (fun y => !decide (jN y x))<;>simp
 ·simp[h]
theorem Cz (pl:α->α->α)(x:Ar α):∀ aq:List (Ar α),(∀ y,aq[yG x aq]?=some y->¬ nC y x)->bH pl x aq=aq.take (yG x aq)++x::aq.drop (yG x aq)
 | [],_=>rfl
 | a::aq,h=>by
  rw[Fh]at h ⊢
  by_cases hl:jN a x
  ·rw[if_pos hl]at h ⊢;rw[bH,if_pos hl,Cz pl x aq (fun y hy=>h y (by simpa using hy))];rfl
  ·rw[if_neg hl]at h ⊢;rw[bH,if_neg hl,if_neg (h a rfl)];rfl
theorem zK (pl:α->α->α)(x y:Ar α):∀ aq:List (Ar α),aq[yG x aq]?=some y->nC y x->bH pl x aq=aq.set (yG x aq) (iX pl y x)
 | [],h,_=>by simp at h
 | a::aq,h,he=>by
  rw[Fh]at h ⊢
  by_cases hl:jN a x
  ·rw[if_pos hl]at h ⊢;rw[bH,if_pos hl,zK pl x y aq (by simpa using h) he];rfl
  ·rw[if_neg hl]at h ⊢;simp at h;subst h;rw[bH,if_neg hl,if_pos he];rfl
theorem u7 (pl:α->α->α)(x:Ar α):∀ aq:List (Ar α),(bH pl x aq).length<=aq.length+1
 | []=>by simp[bH]
 | a::aq=>by
  unfold bH;have:=u7 pl x aq;split
  ·simp;omega
  ·split<;>simp
theorem mR (pl:α->α->α)(x:Ar α)(P Q:Ar α->Prop)(hx:Q x)(hPQ:∀ y,P y->Q y)(hpl:∀ y,P y->Q (iX pl y x)):∀ aq:List (Ar α),(∀ y ∈ aq,P y)->∀ y ∈ bH pl x aq,Q y
 | [],_,y,hy=>by simp[bH]at hy;subst hy;exact hx
 | a::aq,h,y,hy=>by
  unfold bH at hy;split at hy
  ·rcases Qi2.1 hy with rfl|hy
   ·exact hPQ _ (h _ aA)
   ·exact mR pl x P Q hx hPQ hpl aq (fun y hy=>h y (by simp[hy])) y hy
  ·split at hy
   ·rcases Qi2.1 hy with rfl|hy
    ·exact hpl _ (h _ aA)
    ·exact hPQ _ (h _ (by simp[hy]))
   ·rcases Qi2.1 hy with rfl|hy
    ·exact hx
    ·exact hPQ _ (h _ hy)
theorem MF (pl:α->α->α)(x:Ar α)(P Q:Ar α->Prop)(hx:Q x)(hPQ:∀ y,P y->Q y)(hpl:∀ y,P y->Q (iX pl y x))(aq:List (Ar α))(h:∀ y ∈ aq,P y):∀ y ∈ ko pl aq x,Q y:=by
 intro y hy;rcases Q91 aq with rfl|⟨q,a,rfl⟩
 ·simp[ko]at hy;subst hy;exact hx
 ·rw[Q22]at*;rw[kZ]at hy;split at hy
  ·rcases Qv0.1 hy with hy|hy
   ·exact hPQ _ (h _ (by simp[hy]))
   ·simp at hy;subst hy;exact hpl _ (h _ aA)
  ·rcases Qv0.1 hy with hy|hy
   ·exact hPQ _ (h _ hy)
   ·simp at hy;subst hy;exact hx
theorem MG (pl:α->α->α)(x:Ar α)(aq:List (Ar α)):(ko pl aq x).length<=aq.length+1:=by
 rcases Q91 aq with rfl|⟨q,a,rfl⟩
 ·simp[ko]
 ·rw[Q22,kZ];split<;>simp
theorem Vp {x:Ar α}{p:List (Ar α)}{y:Ar α}(h:y ∈ rR x p):y=x\/y ∈ p:=by
 unfold rR at h;rcases Qv0.1 h with h|h
 ·exact .inr (Qn1 h)
 ·rcases Qi2.1 h with h|h
  ·exact .inl h
  ·exact .inr (Q12 h)
theorem zL:∀ (l p:List (Ar α)) {y:Ar α},y ∈ l.foldl (fun p x=>rR x p) p->y ∈ p\/y ∈ l
 | [],p,y,h=>.inl h
 | x::l,p,y,h=>by
  rw[Qj2]at h;rcases zL l _ h with h|h
  ·rcases Vp h with h|h
   ·exact .inr (by simp[h])
   ·exact .inl h
  ·exact .inr (by simp[h])
theorem JG {l:List (Ar α)}{y:Ar α}(h:y ∈ bA l):y ∈ l:=by
 rcases zL l [] h with h|h
 ·simp at h
 ·exact h
end
end Fi.S
noncomputable section
namespace Fi.S
open Go Fi
set_option maxHeartbeats 8000000
set_option maxRecDepth 10000
theorem Qx {k:Int}(hk:single k=true){S T M M':Nat}(hS:1<=S)(hT:1<=T){x y:Sv}(hx:x.of k S M)(hy:y.of k T M'):(dF k x y).of k (S+T+1) (M+M'):=by
 rcases aO hk with rfl|rfl|rfl|rfl|rfl
 ·obtain⟨a,rfl,h1⟩:=wP hx;obtain⟨b,rfl,h2⟩:=wP hy;refine⟨.inl rfl,?_⟩;have:=o8 a b;show qz (a+b)<=_;omega
 ·obtain⟨a,n,rfl,h1⟩:=wQ hx;obtain⟨b,m,rfl,h2⟩:=wQ hy;show Sv.of 2 _ _ (if nK b m a n then .c b m else .c a n);split
  ·exact hy
  ·exact hx
 ·obtain⟨a,rfl,h1⟩:=wR hx;obtain⟨b,rfl,h2⟩:=wR hy;show Sv.of 3 _ _ (if a<b then .q b else .q a);split
  ·exact Sv.of.mono hy ae ae
  ·exact Sv.of.mono hx ae ae
 ·obtain⟨a,rfl,h1⟩:=wS hx;obtain⟨b,rfl,h2⟩:=wS hy;exact⟨rfl,Y5 a b⟩
 ·obtain⟨a,rfl,h1,h2⟩:=wT hx;obtain⟨b,rfl,h3,h4⟩:=wT hy;exact⟨rfl,gP hS hT h1 h3,Qc2 (zx a b) (Nat.add_le_add h2 h4)⟩
theorem CJ {S T M M':Nat}(hS:1<=S)(hT:1<=T){ps:List Int}(hs:∀ k ∈ ps,single k=true){xs ys:List Sv}(hx:gY S M ps xs)(hy:gY T M' ps ys):gY (S+T+1) (M+M') ps (bV ps xs ys):=by
 refine⟨by simp[bV,hx.1,hy.1],fun i k z hk hz => ?_⟩;obtain⟨k',x,y,h1,h2,h3,rfl⟩:=gT hz;rw[hk]at h1;cases h1;exact Qx (hs k (Qa2 hk)) hS hT (hx.2 i k x hk h2) (hy.2 i k y hk h3)
def bW (kk:Int)(ps:List Int):List Sv:=(dW kk ps).map dH
def Fj (kk:Int)(ps:List Int):List Sv:=(dW kk ps).map pU
def yH (kk:Int)(ps:List Int)(xs:List Sv):Bool:=(cO kk xs).eq (cO kk (bW kk ps))
theorem Vq {kk:Int}{ps:List Int}(hv:aK kk ps=true){S M:Nat}{xs:List Sv}(hS:S<=1000)(hx:gY S M (dW kk ps) xs) :
  Ca E1 1104 [.d (aT kk ps),.d (cO kk xs).d] (dB (yH kk ps xs),none)/\Ca E1 1126 [.d (aT kk ps),.d (cO kk xs).d] (dB (yH kk ps xs),none):=by
 have ok1:=Jw hv hS hx;have ok0:(cO kk (bW kk ps)).OK:=Jw hv (S:=1) (M:=1) ae (mF ae (aU hv));obtain⟨K,hK,a1,a2,a3,a4⟩:=((Ca.ib (oz _ ok1 _ ok0)).j ((Ca.ib (ym _ ok1 _ ok0)).j ((Fe hv).j ((AJ hv).any)))).at 0;unfold yH;rw[show(dW kk ps).map dH=bW kk ps from rfl]at a3 a4;generalize (cO kk xs).eq (cO kk (bW kk ps))=b at*;obtain⟨xs',xl1,xl2,xc,xb,xu,xp,xq,ex⟩:=(cO kk xs).aN;obtain⟨zs,Ed,Ee,zc,zb,zu,zp,zq,ez⟩:=(cO kk (bW kk ps)).aN;simp only[ex,ez]at*;clear ok1 ok0 hx ex ez hv;unfold wD aT at*;refine⟨?_,?_⟩
 ·refine Ca.bP (n:=K+100) ?_;rw[av rfl (aM 1104 f1104:E1.fn _=_) rfl];simp[f1104,a1,a3]
 ·refine Ca.bP (n:=K+100) ?_;rw[av rfl (aM 1126 f1126:E1.fn _=_) rfl];simp[f1126,a2,a4]
end Fi.S
