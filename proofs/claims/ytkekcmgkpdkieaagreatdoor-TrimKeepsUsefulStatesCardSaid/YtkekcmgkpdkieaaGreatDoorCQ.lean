import Derived.Test.YtkekcmgkpdkieaaGreatDoorCP
set_option linter.unusedVariables false
set_option linter.unusedSimpArgs false
noncomputable section
namespace Fi
open Go
section
section
variable {E:Env} {α β:Type} {b:aF}
theorem Ex.vU (l:List α)(p:α->Bool)(S:Nat->St)(R F:Out × St)(hR:R.1≠.norm)(hF:F.1≠.norm)
  (round:∀ (j:Nat) (a:α),l[j]?=some a->Ex E b (S j) (if p a then(.norm,S (j+1)) else F)) (last:Ex E b (S l.length) R):Ex E (.loop b) (S 0) (if l.all p then R else F):=by
 have key:∀ (d j:Nat),j+d=l.length->Ex E (.loop b) (S j) (if (l.drop j).all p then R else F):=by
  intro d
  induction d with
  | zero =>
   intro j hj;obtain rfl:j=l.length:=ae;rw[Qp2];exact Ex.leave last hR
  | succ d ih =>
   intro j hj;have hlt:j<l.length:=ae;have hr:=round j _ (Qa1 hlt);rw[Qi2 hlt,Xy2];cases hp:p l[j] with
   | false =>
    rw[hp]at hr;exact Ex.leave hr hF
   | true =>
    rw[hp]at hr;rw[Ql0];exact Ex.next hr (ih (j+1) ae)
 exact key l.length 0 ae
theorem Ex.vV (l:List α)(p:α->Bool)(S:Nat->St)(R:Out × St)(F:Nat->Out × St)(hR:R.1≠.norm)(hF:∀ j,(F j).1≠.norm)
  (round:∀ (j:Nat) (a:α),l[j]?=some a->Ex E b (S j) (if p a then F j else(.norm,S (j+1)))) (last:Ex E b (S l.length) R):Ex E (.loop b) (S 0) (match l.findIdx? p with
   | some j=>F j
   | none=>R):=by
 have key:∀ (d j:Nat),j+d=l.length->(∀ i a,i<j->l[i]?=some a->p a=false)->Ex E (.loop b) (S j) (match l.findIdx? p with
   | some j=>F j
   | none=>R):=by
  intro d
  induction d with
  | zero =>
   intro j hj hno;obtain rfl:j=l.length:=ae;have:l.findIdx? p=none:=by
    rw[Xd1];intro x hx;obtain⟨i,hi⟩:=Xh0.1 hx;exact hno i x (aS hi) hi
   rw[this];exact Ex.leave last hR
  | succ d ih =>
   intro j hj hno;have hlt:j<l.length:=ae;have hr:=round j _ (Qa1 hlt);cases hp:p l[j] with
   | true =>
    rw[hp]at hr;have:l.findIdx? p=some j:=by
     rw[Qr1];exact⟨hlt,hp,fun i hi=>by rw[hno i _ hi (Qa1 ae)];simp⟩
    rw[this];exact Ex.leave hr (hF j)
   | false =>
    rw[hp]at hr;refine Ex.next hr (ih (j+1) ae (fun i a hi ha => ?_))
    rcases Qg2 i j with h|h
    ·exact hno i a h ha
    ·obtain rfl:i=j:=ae;rw[Qa1 hlt]at ha;cases ha;exact hp
 exact key l.length 0 ae (fun i a hi=>by omega)
theorem Ex.fold (l:List α)(f:β->α->β)(z:β)(I:Nat->β->St->Prop)(Q:β->Out × St->Prop)
  (round:∀ (j:Nat) (a:α) (st:St),l[j]?=some a->I j ((l.take j).foldl f z) st->∃ st',Ex E b st (.norm,st')/\I (j+1) (f ((l.take j).foldl f z) a) st')
  (last:∀ st,I l.length (l.foldl f z) st->∃ r,Ex E b st r/\r.1≠.norm/\Q (l.foldl f z) r) {st:St} (h0:I 0 z st):∃ r,Ex E (.loop b) st r/\Q (l.foldl f z) r:=by
 have key:∀ (d j:Nat) (st:St),j+d=l.length->I j ((l.take j).foldl f z) st->∃ r,Ex E (.loop b) st r/\Q (l.foldl f z) r:=by
  intro d
  induction d with
  | zero =>
   intro j st hj hI;obtain rfl:j=l.length:=ae;rw[Qj0]at hI;obtain⟨r,h1,h2,h3⟩:=last st hI;exact⟨r,Ex.leave h1 h2,h3⟩
  | succ d ih =>
   intro j st hj hI;have hlt:j<l.length:=ae;obtain⟨st',h1,h2⟩:=round j _ st (Qa1 hlt) hI;have h3:(l.take (j+1)).foldl f z=f ((l.take j).foldl f z) l[j]:=by rw[Qi1 hlt,Xv1];rfl
   rw[<-h3]at h2;obtain⟨r,h4,h5⟩:=ih (j+1) st' ae h2;exact⟨r,h1.next h4,h5⟩
 exact key l.length 0 st ae (by simpa using h0)
end
end
end Fi
namespace Fi.S
open Go Fi
set_option maxHeartbeats 8000000
section
structure Ar (α:Type) where
 f:Int
 l:Int
 t:Int
 x:α
def mM (f l t:Int)(s:Bool)(l1 l2:List D)(c:Int)(b:Bool)(u:Int)(p ps:List D):D:=.a [vI f,vI l,vI t,vB s,.s 1 l1,.s 1 l2,vI c,vB b,.v (.int .u64 u),.s 6 p,.s 8 ps]
variable {α:Type}
def Ar.d (e:α->W)(a:Ar α):D:=.a (vI a.f::vI a.l::vI a.t::(e a.x).d.cells)
theorem Ar.dP (e:α->W)(a:Ar α):∃ s l1 l2 c b u p ps,(e a.x).d=wD s l1 l2 c b u p ps/\a.d e=mM a.f a.l a.t s l1 l2 c b u p ps:=by
 obtain⟨s,l1,l2,c,b,u,p,ps,h⟩:=(e a.x).bq;exact⟨s,l1,l2,c,b,u,p,ps,h,by unfold Ar.d mM;rw[h];rfl⟩
def XU (x y z:Int):Int:=if x=0 then if y=0 then z else y else x
def iG (a b:Ar α):Int:=XU (eO a.f b.f) (eO a.l b.l) (eO a.t b.t)
theorem abQ (n:Nat)(x y z:Int):CL E0 (n+200) 1109 [.d (.s 1 [vI x,vI y,vI z])] []=some (dI (XU x y z),none):=by
 have w1:av .i64 1=1:=wrap_i64 ae;have w2:av .i64 2=2:=wrap_i64 ae;have w3:av .i64 3=3:=wrap_i64 ae;rw[aB rfl (aN 1109 f1109:E0.fn _=_) rfl];unfold XU
 by_cases h1:x=0
 ·subst h1
  by_cases h2:y=0
  ·subst h2
   by_cases h3:z=0
   ·subst h3;simp[f1109,aH,w1,w2,w3]
   ·have e3:(z != 0)=true:=by simpa using h3
    simp[f1109,aH,w1,w2,w3,e3]
  ·have e2:(y != 0)=true:=by simpa using h2
   simp[f1109,aH,w1,w2,w3,e2,h2]
 ·have e1:(x != 0)=true:=by simpa using h1
  simp[f1109,aH,w1,w2,w3,e1,h1]
theorem vW (e:α->W)(n:Nat)(a b:Ar α):CL E0 (n+400) 1070 [.d (a.d e),.d (b.d e)] []=some (dI (iG a b),none):=by
 obtain⟨s,l1,l2,c,i,u,p,ps,_,ea⟩:=a.dP e;obtain⟨s',Tw,Tx,c',i',u',p',ps',_,eb⟩:=b.dP e;rw[ea,eb];have c1:=fun m=>nS m a.f b.f
 have c2:=fun m=>nS m a.l b.l
 have c3:=fun m=>nS m a.t b.t
 have t:=fun m=>abQ m (eO a.f b.f) (eO a.l b.l) (eO a.t b.t)
 unfold iG;generalize eO a.f b.f=x,eO a.l b.l=y,eO a.t b.t=z at*;generalize XU x y z=r at*;rw[aB rfl (aN 1070 f1070:E0.fn _=_) rfl];unfold mM;simp[f1070,c1,c2,c3,t]
end
section
variable {α:Type} {e:α->W}
def inM:aF:=f1208.body.r.bl.lp.r.l.bl.r.bl.lp
def KQ (o az n:Nat)(B:List ai)(i j:Nat)(t:FV)(dt:Bool):St :=
 {vars:=[.ls (.old o) az 11 0 n,dI 0,dI n,.d (.fn 1070),dI i,dI j,.u,t],base:=B,loc:=[],aQ:=dt}
theorem XV (o az n:Nat)(B:List ai)(i k:Nat)(dt:Bool)(es:List D)(x y:Ar α)(hB:B[o]?=some (.row az 11 es))(hn:es.length=n)(hn2:n<=1000000)(hx:es[k+1]?=some (x.d e))(hy:es[k]?=some (y.d e))(hlt:iG x y<0) :
  Ex E0 inM (KQ o az n B i (k+1) .u dt) (.norm,KQ o az n (B.set o (.row az 11 ((es.set (k+1) (y.d e)).set k (x.d e)))) i k .u true):=by
 have t:=fun m=>vW e m x y
 have hol:o<B.length:=(aS hB)
 have hkl:k+1<es.length:=(aS hx)
 have hkn:(k:Int)+1<(n:Int):=ae;have hkn2:(k:Int)<(n:Int):=ae;have hk0:(0:Int)<=(k:Int):=ae;have hk1:(0:Int)<=(k:Int)+1:=ae;have hgt:(0:Int)<(k:Int)+1:=ae;have tn:((k:Int)+1).toNat=k+1:=ae;have hw:av .i64 (k:Int)=(k:Int):=wrap_i64 ae;have hk2:((k+1:Nat):Int)=(k:Int)+1:=ae;have s1:∀ r,(es.set (k+1) r)[k]?=some (y.d e):=fun r=>by rw[Qc0 ae];exact hy
 generalize iG x y=od at*;obtain⟨s,l1,l2,c,b,u,p,ps,_,ex⟩:=x.dP e;obtain⟨s',Tw,Tx,c',b',u',p',ps',_,ey⟩:=y.dP e;simp only[ex,ey]at t hx hy s1 ⊢;clear ex ey;unfold mM at*;generalize x.f=xf,x.l=xl,x.t=xt,y.f=yf,y.l=yl,y.t=yt at*;have mP:k<es.length:=ae;refine Ex.of (n:=500) ?_;unfold KQ;rw[hk2];have i1:=idx hx;have i2:=idx hy;have i3:=idx hB;have i4:∀ r (h:k<(es.set (k+1) r).length),(es.set (k+1) r)[k]=_:=fun r h=>idx (s1 r) h
 simp[inM,f1208,t,hol,hkl,hkn,hkn2,hk0,hk1,hgt,tn,hw,hB,hx,hy,s1,i1,i2,i3,i4,hlt,mP,hn]
theorem XW (o az n:Nat)(B:List ai)(i k:Nat)(dt:Bool)(es:List D)(x y:Ar α)(hB:B[o]?=some (.row az 11 es))(hn:es.length=n)(hn2:n<=1000000)(hx:es[k+1]?=some (x.d e))(hy:es[k]?=some (y.d e))(hlt:¬ iG x y<0) :
  Ex E0 inM (KQ o az n B i (k+1) .u dt) (.exit 2,KQ o az n B i (k+1) (dB false) dt):=by
 have t:=fun m=>vW e m x y
 have hol:o<B.length:=(aS hB)
 have hkl:k+1<es.length:=(aS hx)
 have hkn:(k:Int)+1<(n:Int):=ae;have hkn2:(k:Int)<(n:Int):=ae;have hk0:(0:Int)<=(k:Int):=ae;have hk1:(0:Int)<=(k:Int)+1:=ae;have hgt:(0:Int)<(k:Int)+1:=ae;have tn:((k:Int)+1).toNat=k+1:=ae;have hw:av .i64 (k:Int)=(k:Int):=wrap_i64 ae;have hk2:((k+1:Nat):Int)=(k:Int)+1:=ae;generalize iG x y=od at*;have hge:0<=od:=ae;obtain⟨s,l1,l2,c,b,u,p,ps,_,ex⟩:=x.dP e;obtain⟨s',Tw,Tx,c',b',u',p',ps',_,ey⟩:=y.dP e;simp only[ex,ey]at t hx hy ⊢;clear ex ey;unfold mM at*;generalize x.f=xf,x.l=xl,x.t=xt,y.f=yf,y.l=yl,y.t=yt at*;have mP:k<es.length:=ae;refine Ex.of (n:=500) ?_;unfold KQ;rw[hk2];have i1:=idx hx;have i2:=idx hy;have i3:=idx hB;simp[inM,f1208,t,hol,hkl,hkn,hkn2,hk0,hk1,hgt,tn,hw,hB,hx,hy,i1,i2,i3,hlt,mP,hn,hge]
theorem XX (o az n:Nat)(B:List ai)(i:Nat)(dt:Bool):Ex E0 inM (KQ o az n B i 0 .u dt) (.exit 2,KQ o az n B i 0 (dB false) dt):=by
 refine Ex.of (n:=100) ?_;unfold KQ;simp[inM,f1208]
end
section
variable {α:Type} {e:α->W}
def dD (x:Ar α)(p:List (Ar α)):Nat->Nat
 | 0=>0
 | j+1=>match p[j]? with
  | some y=>if iG x y<0 then dD x p j else j+1
  | none=>j+1
theorem xI (x:Ar α)(p:List (Ar α)):∀ j,dD x p j<=j
 | 0=>Qd1 _
 | j+1=>by
  unfold dD;split
  ·split
   ·exact Nat.le_succ_of_le (xI x p j)
   ·exact Qd1 _
  ·exact Qd1 _
def rq (x:Ar α)(p:List (Ar α)):List (Ar α):=p.take (dD x p p.length)++x::p.drop (dD x p p.length)
def bz (l:List (Ar α)):List (Ar α):=l.foldl (fun p x=>rq x p) []
theorem Ty (x:Ar α)(p:List (Ar α)):(rq x p).length=p.length+1:=by
 unfold rq;have:=xI x p p.length;simp only[Qb0,Ql2,Qf2,Q91];omega
theorem yI:∀ (l p:List (Ar α)),(l.foldl (fun p x=>rq x p) p).length=p.length+l.length
 | [],p=>rfl
 | x::l,p=>by rw[Qp0,yI l,Ty];simp;omega
theorem kH (l:List (Ar α)):(bz l).length=l.length:=by
 unfold bz;rw[yI];simp
def JA (e:α->W)(p q:List (Ar α))(x:Ar α)(j:Nat):List D:=((p.take j++x::p.drop j)++q).map (Ar.d e)
theorem XY (p q:List (Ar α))(x:Ar α)(j:Nat)(h:j<=p.length):(JA e p q x j).length=p.length+1+q.length:=by
 unfold JA;simp only[Qk0,Qb0,Ql2,Qf2,Q91];omega
theorem ZK {p q:List (Ar α)}{x:Ar α}{j:Nat}(h:j<=p.length):(JA e p q x j)[j]?=some (x.d e):=by
 unfold JA;rw[Qc1,Qk2,Qb1 (by simp[X10 h])];simp[X10 h]
theorem ZL {p q:List (Ar α)}{x y:Ar α}{j:Nat}(h:p[j]?=some y):(JA e p q x (j+1))[j]?=some (y.d e):=by
 have hj:=(aS h)
 unfold JA;rw[Qc1,Qk2,Qa0 (by simp;omega),Qp1,if_pos ae,h];rfl
theorem Tz {p q:List (Ar α)}{x y:Ar α}{j:Nat}(h:p[j]?=some y):((JA e p q x (j+1)).set (j+1) (y.d e)).set j (x.d e)=JA e p q x j:=by
 obtain⟨hj,hy⟩:=Qm0.1 h;subst hy;unfold JA;rw[Qi1 hj,Qi2 hj];simp only[Qr0,Qe1,Qk2,Q30,Qn0,Qc2];have hl:(List.map (Ar.d e) (List.take j p)).length=j:=by simp;omega
 rw[Qv2 _ _ ae,Qv2 _ _ ae,hl];simp
theorem MK (o az n i:Nat)(B:List ai)(ho:o<B.length)(p q:List (Ar α))(x:Ar α)(hn:p.length+1+q.length=n)(hn2:n<=1000000):∀ (j:Nat),j<=p.length->∀ dt,∃ nN,
  Ex E0 (.loop inM) (KQ o az n (B.set o (.row az 11 (JA e p q x j))) i j .u dt) (.exit 2,KQ o az n (B.set o (.row az 11 (JA e p q x (dD x p j)))) i (dD x p j) (dB false) nN)/\(nN=false->dt=false/\dD x p j=j)
 | 0,_,dt=>⟨dt,Ex.leave (XX o az n _ i dt) aC,fun h=>⟨h,rfl⟩⟩
 | j+1,hj,dt=>by
  have hy:p[j]?=some p[j]:=Qa1 ae;have hl:=XY (e:=e) p q x (j+1) hj;have hB:(B.set o (.row az 11 (JA e p q x (j+1))))[o]?=some (.row az 11 (JA e p q x (j+1))):=Qd0 ho
  by_cases hlt:iG x p[j]<0
  ·have hp:dD x p (j+1)=dD x p j:=by simp only[dD,hy,if_pos hlt]
   rw[hp];have hr:=XV o az n _ i j dt _ x p[j] hB ae hn2 (ZK hj) (ZL hy) hlt;rw[Tz hy,List.set_set]at hr;obtain⟨nN,h1,h2⟩:=MK o az n i B ho p q x hn hn2 j ae true;exact⟨nN,hr.next h1,fun h=>absurd (h2 h).1 aC⟩
  ·have hp:dD x p (j+1)=j+1:=by simp only[dD,hy,if_neg hlt]
   rw[hp];exact⟨dt,Ex.leave (XW o az n _ i j dt _ x p[j] hB ae hn2 (ZK hj) (ZL hy) hlt) aC,fun h=>⟨h,rfl⟩⟩
def ru (o az n:Nat)(B:List ai)(i:Nat)(t:FV)(dt:Bool):St :=
 {vars:=[.ls (.old o) az 11 0 n,dI 0,dI n,.d (.fn 1070),dI i,.u,t,.u],base:=B,loc:=[],aQ:=dt}
def KR:aF:=f1208.body.r.bl.lp
theorem OH (o az n i:Nat)(B:List ai)(ho:o<B.length)(p q:List (Ar α))(x:Ar α)(hp:p.length=i)(hn:p.length+1+q.length=n)(hn2:n<=1000000)(dt:Bool):∃ nN,
  Ex E0 KR (ru o az n (B.set o (.row az 11 ((p++x::q).map (Ar.d e)))) i .u dt) (.norm,ru o az n (B.set o (.row az 11 ((rq x p++q).map (Ar.d e)))) (i+1) .u nN)/\(nN=false->dt=false/\rq x p=p++[x]):=by
 obtain⟨nN,h1,h2⟩:=MK o az n i B ho p q x hn hn2 p.length (Qd1 _) dt;have e0:JA e p q x p.length=(p++x::q).map (Ar.d e):=by unfold JA;simp
 have e1:JA e p q x (dD x p p.length)=(rq x p++q).map (Ar.d e):=rfl;rw[e0,e1]at h1;refine⟨nN,?_,fun h=>⟨(h2 h).1,by unfold rq;rw[(h2 h).2];simp⟩⟩;have hin:(i:Int)<(n:Int):=ae;have hw:av .i64 ((i:Int)+1)=(i:Int)+1:=wrap_i64 ae;have hi1:((i+1:Nat):Int)=(i:Int)+1:=ae;generalize (p++x::q).map (Ar.d e)=e2 at*;generalize (rq x p++q).map (Ar.d e)=e3,dD x p p.length=j2 at*;rw[hp]at h1;refine Ex.seq (st1:=ru o az n (B.set o (.row az 11 e2)) i (dB true) dt) (Ex.of (n:=60) (by unfold ru;simp[KR,f1208,hin])) ?_;refine Ex.seq (st1:=KQ o az n (B.set o (.row az 11 e3)) i j2 (dB false) nN) (Ex.fF (Ex.seq (st1:=KQ o az n (B.set o (.row az 11 e2)) i i .u dt) (Ex.of (n:=60) (by unfold ru KQ;simp[KR,f1208])) (Ex.block h1))) ?_;apply e6;unfold ru KQ;rw[hi1];simp[KR,f1208,hw]
theorem Io (o az n i:Nat)(B:List ai)(hi:n<=i)(dt:Bool):Ex E0 KR (ru o az n B i .u dt) (.exit 0,ru o az n B i (dB false) dt):=by
 apply e6;have hin:¬ (i:Int)<(n:Int):=ae;have hin2:(n:Int)<=(i:Int):=ae;unfold ru;simp[KR,f1208,hin,hin2]
theorem Ip (o az:Nat)(B:List ai)(ho:o<B.length)(l:List (Ar α))(hn2:l.length<=1000000):∀ (d i:Nat),i+d=l.length->∀ dt,∃ nN,
  Ex E0 (.loop KR) (ru o az l.length (B.set o (.row az 11 ((bz (l.take i)++l.drop i).map (Ar.d e)))) i .u dt) (.exit 0,ru o az l.length (B.set o (.row az 11 ((bz l).map (Ar.d e)))) l.length (dB false) nN) /\
   (nN=false->dt=false/\bz l=bz (l.take i)++l.drop i)
 | 0,i,hi,dt=>by
  obtain rfl:i=l.length:=ae;rw[Qj0,Qp2,Qx1];exact⟨dt,Ex.leave (Io o az _ _ _ (Qd1 _) dt) aC,fun h=>⟨h,rfl⟩⟩
 | d+1,i,hi,dt=>by
  have hlt:i<l.length:=ae;have e1:bz (l.take (i+1))=rq l[i] (bz (l.take i)):=by
   unfold bz;rw[Qi1 hlt,Xv1];rfl
  obtain⟨dt1,h1,h2⟩:=OH o az l.length i B ho (bz (l.take i)) (l.drop (i+1)) l[i] (by rw[kH];simp;omega) (by rw[kH];simp;omega) hn2 dt;rw[<-Qi2 hlt,<-e1]at h1;obtain⟨dt2,h3,h4⟩:=Ip o az B ho l hn2 d (i+1) ae dt1;refine⟨dt2,h1.next h3,fun h => ?_⟩;obtain⟨g1,g2⟩:=h4 h;obtain⟨g3,g4⟩:=h2 g1;refine⟨g3,?_⟩;rw[g2,e1,g4,Qk2,List.singleton_append,<-Qi2 hlt]
def sorted (e:α->W)(o az:Nat)(B:List ai)(l:List (Ar α))(r:FV × Option (List ai)):Prop :=
 (r=(.d (.t []),none)/\bz l=l)\/r=(.d (.t []),some (B.set o (.row az 11 ((bz l).map (Ar.d e)))))
theorem abS (o az:Nat)(B:List ai)(l:List (Ar α))(hB:B[o]?=some (.row az 11 (l.map (Ar.d e))))(hO:∀ n,B.map (ai.aA n)=B)(hn:l.length<=1000000) :
  ∃ r N,(∀ m,CL E0 (N+m) 1208 [.ls (.old o) az 11 0 l.length,dI 0,dI l.length,.d (.fn 1070)] B=some r)/\sorted e o az B l r:=by
 have ho:o<B.length:=(aS hB)
 have hself:B.set o (.row az 11 (l.map (Ar.d e)))=B:=by
  obtain⟨h,e⟩:=Qm0.1 hB;rw[<-e,X00]
 have hset:∀ n r,(∀ k,ai.aA k r=r)->(B.set o r).map (ai.aA n)=B.set o r:=fun n r hr=>by rw[Q41,hO,hr]
 obtain⟨dt,st,hrun,hdt,hst⟩:∃ (dt:Bool) (i:Nat),Ex E0 f1208.body (ru o az l.length B 0 .u false |> fun s=>{s with vars:=(.ls (.old o) az 11 0 l.length::dI 0::dI l.length::.d (.fn 1070)::mO)}) (.norm,ru o az l.length (B.set o (.row az 11 ((bz l).map (Ar.d e)))) i (dB false) dt)/\(dt=false->bz l=l)/\True:=by
  have h0:Ex E0 f1208.body.l (ru o az l.length B 0 .u false |> fun s=>{s with vars:=(.ls (.old o) az 11 0 l.length::dI 0::dI l.length::.d (.fn 1070)::mO)}) (.norm,ru o az l.length B 1 .u false):=by
   apply e6;have w1:av .i64 1=1:=wrap_i64 ae;unfold ru;simp[f1208,w1]
  cases l with
  | nil =>
   refine⟨false,1,?_,fun _=>rfl,trivial⟩;have h1:=Io o az 0 1 B ae false;simp only[Qc2]at hself;have e1:(bz ([]:List (Ar α))).map (Ar.d e)=[]:=rfl;rw[e1,hself];exact Ex.seq h0 (Ex.block (Ex.leave h1 aC))
  | cons a l =>
   obtain⟨dt,h1,h2⟩:=Ip o az B ho (a::l) hn l.length 1 (by simp;omega) false;have e1:bz ((a::l).take 1)++(a::l).drop 1=a::l:=by simp[bz,rq,dD]
   rw[e1,hself]at h1;rw[e1]at h2;exact⟨dt,_,Ex.seq h0 (Ex.block h1),fun h=>(h2 h).2,trivial⟩
 obtain⟨N,hN⟩:=oZ (E:=E0) (g:=1208) (F:=f1208) (args:=[.ls (.old o) az 11 0 l.length,dI 0,dI l.length,.d (.fn 1070)]) (B:=B) (o:=.norm)
  (r:=if dt then(.d (.t []),some (B.set o (.row az 11 ((bz l).map (Ar.d e))))) else(.d (.t []),none)) rfl (k1208:E0.fn _=_) rfl hrun aC (by
   have hm:=hset (B.set o (.row az 11 ((bz l).map (Ar.d e)))).length (.row az 11 ((bz l).map (Ar.d e))) (fun _=>rfl);cases dt<;>simp[finish,jF,show f1208.res=[] from rfl,show f1208.ref=true from rfl,dL,oneOf,lY,kT,iW,ru,FV.aA,hset,ai.aA,hO])
 refine⟨_,N,hN,?_⟩;cases dt with
 | true=>exact .inr rfl
 | false=>exact .inl ⟨rfl,hdt rfl⟩
end
section
variable {α:Type} {e:α->W}
theorem FH (o az:Nat)(B:List ai)(l:List (Ar α))(hB:B[o]?=some (.row az 11 (l.map (Ar.d e))))(hO:∀ n,B.map (ai.aA n)=B)(hn:l.length<20) :
  ∃ r N,(∀ m,CL E0 (N+m) 1138 [.ls (.old o) az 11 0 l.length,dI l.length,.d (.fn 1070)] B=some r)/\sorted e o az B l r:=by
 obtain⟨r,N,t,hs⟩:=abS o az B l hB hO ae;refine⟨r,N+200,fun m => ?_,hs⟩;have h1:¬ (20:Int)<=(l.length:Int):=ae;have h2:¬ (20:Int)<(l.length:Int):=ae;have h1':(l.length:Int)<20:=ae;have h2':(l.length:Int)<=20:=ae;have hne:N+200+m=(N+m)+200:=ae;have hB0:B≠[]:=by intro h;rw[h]at hB;cases hB
 rw[hne,aB rfl (k1138:E0.fn _=_) rfl];replace t:=fun k=>bX (t 0) (show N+0<=N+m+k by omega)
 rcases hs with ⟨rfl,_⟩|rfl
 ·generalize l.length=n at*;simp[f1138,aH,t,hO,h1,h2,h1',h2',FV.aA,FV.aT,lY]
 ·have hO1:∀ k,(B.set o (.row az 11 ((bz l).map (Ar.d e)))).map (ai.aA k)=B.set o (.row az 11 ((bz l).map (Ar.d e))):=fun k=>by rw[Q41,hO];rfl
  have tk:(B.set o (.row az 11 ((bz l).map (Ar.d e)))).take B.length=B.set o (.row az 11 ((bz l).map (Ar.d e))):=Qe0 aC;have dp:(B.set o (.row az 11 ((bz l).map (Ar.d e)))).drop B.length=[]:=Xx0 aC;generalize B.set o (.row az 11 ((bz l).map (Ar.d e)))=B1,l.length=n at*;simp[f1138,aH,t,hB0,hO,hO1,tk,dp,h1,h2,h1',h2',FV.aA,FV.aT,lY]
theorem OI (o az:Nat)(B:List ai)(l:List (Ar α))(hB:B[o]?=some (.row az 11 (l.map (Ar.d e))))(hO:∀ n,B.map (ai.aA n)=B)(hn:l.length<20) :
  ∃ r N,(∀ m,CL E0 (N+m) 1101 [.ls (.old o) az 11 0 l.length,.d (.fn 1070)] B=some r)/\sorted e o az B l r:=by
 obtain⟨r,N,t,hs⟩:=FH o az B l hB hO hn;refine⟨r,N+200,fun m => ?_,hs⟩;have hne:N+200+m=(N+m)+200:=ae;have hB0:B≠[]:=by intro h;rw[h]at hB;cases hB
 rw[hne,aB rfl (k1101:E0.fn _=_) rfl];replace t:=fun k=>bX (t 0) (show N+0<=N+m+k by omega)
 rcases hs with ⟨rfl,_⟩|rfl
 ·generalize l.length=n at*;simp[f1101,t,hO,FV.aA,FV.aT,lY]
 ·have hO1:∀ k,(B.set o (.row az 11 ((bz l).map (Ar.d e)))).map (ai.aA k)=B.set o (.row az 11 ((bz l).map (Ar.d e))):=fun k=>by rw[Q41,hO];rfl
  have tk:(B.set o (.row az 11 ((bz l).map (Ar.d e)))).take B.length=B.set o (.row az 11 ((bz l).map (Ar.d e))):=Qe0 aC;have dp:(B.set o (.row az 11 ((bz l).map (Ar.d e)))).drop B.length=[]:=Xx0 aC;generalize B.set o (.row az 11 ((bz l).map (Ar.d e)))=B1,l.length=n at*;simp[f1101,t,hB0,hO,hO1,tk,dp,FV.aA,FV.aT,lY]
end
section
section
variable {α:Type}
theorem fM (x y:Int):(eO x y=-1/\x<y)\/(eO x y=0/\x=y)\/(eO x y=1/\y<x):=by
 unfold eO
 by_cases h1:x<y
 ·exact .inl ⟨if_pos h1,h1⟩
 ·by_cases h2:y<x
  ·exact .inr (.inr ⟨by rw[if_neg h1,if_pos h2],h2⟩)
  ·exact .inr (.inl ⟨by rw[if_neg h1,if_neg h2],ae⟩)
def gP (a b:Ar α):Prop:=a.f<b.f\/a.f=b.f/\(a.l<b.l\/a.l=b.l/\a.t<b.t)
def kV (a b:Ar α):Prop:=a.f=b.f/\a.l=b.l/\a.t=b.t
theorem FI (a b:Ar α):iG a b<0↔gP a b:=by
 unfold iG XU gP;rcases fM a.f b.f with ⟨h,h'⟩|⟨h,h'⟩|⟨h,h'⟩<;>rcases fM a.l b.l with ⟨k,k'⟩|⟨k,k'⟩|⟨k,k'⟩<;>rcases fM a.t b.t with ⟨m,m'⟩|⟨m,m'⟩|⟨m,m'⟩<;>simp only[h,k,m]<;>simp<;>omega
theorem vX (a b:Ar α):iG a b=0↔kV a b:=by
 unfold iG XU kV;rcases fM a.f b.f with ⟨h,h'⟩|⟨h,h'⟩|⟨h,h'⟩<;>rcases fM a.l b.l with ⟨k,k'⟩|⟨k,k'⟩|⟨k,k'⟩<;>rcases fM a.t b.t with ⟨m,m'⟩|⟨m,m'⟩|⟨m,m'⟩<;>simp only[h,k,m]<;>simp<;>omega
theorem gY (a b:Ar α):gP a b\/kV a b\/gP b a:=by unfold gP kV;omega
theorem ry {a b:Ar α}(h:kV a b):¬ gP a b:=by unfold gP kV at*;omega
theorem sN {a b:Ar α}(h:gP a b):¬ gP b a:=by unfold gP at*;omega
theorem zM {a b:Ar α}(h:gP a b):¬ kV a b:=by unfold gP kV at*;omega
theorem Iq {a b:Ar α}(h:gP a b):¬ kV b a:=by unfold gP kV at*;omega
theorem Ef {a b c:Ar α}(h:gP a b)(k:gP b c):gP a c:=by unfold gP at*;omega
theorem aeW {a b c:Ar α}(h:¬ gP b a)(k:gP b c):gP a c:=by unfold gP at*;omega
theorem ZM {a b c:Ar α}(h:gP a b)(k:¬ gP c b):gP a c:=by unfold gP at*;omega
theorem aeX {a b c:Ar α}(h:¬ gP b a)(k:¬ gP c b):¬ gP c a:=by unfold gP at*;omega
def iq (pl:α->α->α)(a b:Ar α):Ar α:={a with x:=pl a.x b.x}
theorem XZ {pl:α->α->α}{a b c:Ar α}:kV (iq pl a b) c↔kV a c:=Iff.rfl
instance (a b:Ar α):Decidable (gP a b):=by unfold gP;exact inferInstance
instance (a b:Ar α):Decidable (kV a b):=by unfold kV;exact inferInstance
def o8 (x:Ar α):List (Ar α)->List (Ar α)
 | []=>[x]
 | y::r=>if gP x y then x::y::r else y::o8 x r
def uY (pl:α->α->α)(a:Ar α):List (Ar α)->List (Ar α)
 | []=>[a]
 | b::r=>if kV a b then uY pl (iq pl a b) r else a::uY pl b r
def mg (pl:α->α->α):List (Ar α)->List (Ar α)
 | []=>[]
 | a::r=>uY pl a r
def bu (pl:α->α->α)(x:Ar α):List (Ar α)->List (Ar α)
 | []=>[x]
 | y::r=>if gP y x then y::bu pl x r else if kV y x then iq pl y x::r else x::y::r
abbrev zh (l:List (Ar α)):Prop:=l.Pairwise fun a b=>¬ gP b a
theorem Ir (pl:α->α->α):∀ (r:List (Ar α)) (a:Ar α),∃ y t,uY pl a r=y::t/\kV y a
 | [],a=>⟨a,[],rfl,rfl,rfl,rfl⟩
 | b::r,a=>by
  unfold uY;split
  ·obtain⟨y,t,h1,h2⟩:=Ir pl r (iq pl a b);exact⟨y,t,h1,h2⟩
  ·exact⟨a,_,rfl,rfl,rfl,rfl⟩
theorem vY {pl:α->α->α}{x:Ar α}(r:List (Ar α)){a:Ar α}(h:gP x a):bu pl x (uY pl a r)=x::uY pl a r:=by
 obtain⟨y,t,h1,h2⟩:=Ir pl r a;have h3:gP x y:=by unfold gP kV at*;omega
 rw[h1,bu,if_neg (sN h3),if_neg (Iq h3)]
theorem FJ (pl:α->α->α)(x:Ar α):∀ (r:List (Ar α)) (a:Ar α),zh (a::r)->¬ gP x a->uY pl a (o8 x r)=bu pl x (uY pl a r)
 | [],a,_,h=>by
  simp only[o8,uY]
  by_cases he:kV a x
  ·rw[if_pos he,bu,if_neg (ry he),if_pos he]
  ·have hlt:gP a x:=by
    rcases gY a x with h1|h1|h1
    ·exact h1
    ·exact absurd h1 he
    ·exact absurd h1 h
   rw[if_neg he,bu,if_pos hlt];rfl
 | b::r,a,hs,h=>by
  obtain⟨hab,hs2⟩:=Qn2.1 hs;have ahe:=hab b aC;unfold o8
  by_cases hxb:gP x b
  ·rw[if_pos hxb];have aeY:gP a b:=aeW h hxb;have e1:uY pl a (b::r)=a::uY pl b r:=by rw[uY,if_neg (zM aeY)]
   rw[e1]
   by_cases he:kV a x
   ·have e2:uY pl (iq pl a x) (b::r)=iq pl a x::uY pl b r:=by rw[uY,if_neg (fun h'=>zM aeY (XZ.1 h'))]
    rw[uY,if_pos he,e2,bu,if_neg (ry he),if_pos he]
   ·have hlt:gP a x:=by
     rcases gY a x with h1|h1|h1
     ·exact h1
     ·exact absurd h1 he
     ·exact absurd h1 h
    have e2:uY pl x (b::r)=x::uY pl b r:=by rw[uY,if_neg (zM hxb)]
    rw[uY,if_neg he,e2,bu,if_pos hlt,vY r hxb]
  ·rw[if_neg hxb]
   by_cases he:kV a b
   ·have hs3:zh (iq pl a b::r):=Qn2.2 ⟨fun c hc=>hab c (by simp[hc]),(Qn2.1 hs2).2⟩;rw[uY,if_pos he,FJ pl x r (iq pl a b) hs3 h,uY,if_pos he]
   ·have hlt:gP a b:=by
     rcases gY a b with h1|h1|h1
     ·exact h1
     ·exact absurd h1 he
     ·exact absurd h1 ahe
    rw[uY,if_neg he,FJ pl x r b hs2 hxb,uY,if_neg he,bu,if_pos (ZM hlt hxb)]
theorem abT (pl:α->α->α)(x:Ar α):∀ (s:List (Ar α)),zh s->mg pl (o8 x s)=bu pl x (mg pl s)
 | [],_=>rfl
 | a::r,hs=>by
  unfold o8
  by_cases h:gP x a
  ·rw[if_pos h]
   change uY pl x (a::r)=bu pl x (uY pl a r)
   rw[vY r h,uY,if_neg (zM h)]
  ·rw[if_neg h];exact FJ pl x r a hs h
theorem Iu {x:Ar α}:∀ {s:List (Ar α)} {y:Ar α},y ∈ o8 x s->y=x\/y ∈ s
 | [],y,h=>by simp[o8]at h;exact .inl h
 | a::r,y,h=>by
  unfold o8 at h;split at h
  ·simpa using h
  ·rcases Qg1.1 h with h|h
   ·exact .inr (by simp[h])
   ·rcases Iu h with h|h
    ·exact .inl h
    ·exact .inr (by simp[h])
theorem Bw (x:Ar α):∀ {s:List (Ar α)},zh s->zh (o8 x s)
 | [],_=>by simp[o8,zh]
 | a::r,hs=>by
  obtain⟨h1,h2⟩:=Qn2.1 hs;unfold o8;split
  ·rename_i h;refine Qn2.2 ⟨fun c hc => ?_,hs⟩;rcases Qg1.1 hc with rfl|hc
   ·exact sN h
   ·exact sN (ZM h (h1 c hc))
  ·rename_i h;refine Qn2.2 ⟨fun c hc => ?_,Bw x h2⟩;rcases Iu hc with rfl|hc
   ·exact h
   ·exact h1 c hc
theorem Bz (x:Ar α)(v:List (Ar α))(hv:∀ y,v.head?=some y->gP x y):∀ (u:List (Ar α)),(∀ y ∈ u,¬ gP x y)->o8 x (u++v)=u++x::v
 | [],_=>by
  cases v with
  | nil=>rfl
  | cons y r=>simp only[Qn0,o8];rw[if_pos (hv y rfl)]
 | a::u,h=>by
  rw[Q30,o8,if_neg (h a aC),Bz x v hv u (fun y hy=>h y (by simp[hy]))];rfl
theorem yJ (x:Ar α)(p:List (Ar α)):∀ j,j<=p.length->(∀ i y,dD x p j<=i->i<j->p[i]?=some y->gP x y)/\(∀ y,0<dD x p j->p[dD x p j-1]?=some y->¬ gP x y)
 | 0,_=>⟨fun i y h1 h2=>by omega,fun y h=>by simp[dD]at h⟩
 | j+1,hj=>by
  have hy:p[j]?=some p[j]:=Qa1 ae;obtain⟨h1,h2⟩:=yJ x p j ae
  by_cases hlt:iG x p[j]<0
  ·have hp:dD x p (j+1)=dD x p j:=by simp only[dD,hy,if_pos hlt]
   rw[hp];refine⟨fun i y g1 g2 g3 => ?_,h2⟩;rcases Qg2 i j with h|h
   ·exact h1 i y g1 h g3
   ·obtain rfl:i=j:=ae;rw[hy]at g3;cases g3;exact(FI _ _).1 hlt
  ·have hp:dD x p (j+1)=j+1:=by simp only[dD,hy,if_neg hlt]
   rw[hp];refine⟨fun i y g1 g2=>by omega,fun y _ g => ?_⟩;simp only[Xt1]at g;rw[hy]at g;cases g;exact fun h=>hlt ((FI _ _).2 h)
theorem X0 (x:Ar α){p:List (Ar α)}(hs:zh p):rq x p=o8 x p:=by
 obtain⟨h1,h2⟩:=yJ x p p.length (Qd1 _);have hle:=xI x p p.length;generalize hk:dD x p p.length=k at*;have:=Bz x (p.drop k) (fun y hy=>by
  rw[List.head?_drop]at hy;exact h1 k y (Qd1 _) (aS hy) hy) (p.take k) (fun y hy=>by
  obtain⟨i,hi⟩:=Xh0.1 hy;rw[Qp1]at hi;split at hi
  ·rename_i hik;have hlast:p[k-1]?=some p[k-1]:=Qa1 ae;have h3:=h2 p[k-1] ae hlast;rcases Qg2 i (k-1) with h|h
   ·have hii:=(Qm0.1 hi)
    have h4:=List.pairwise_iff_getElem.1 hs i (k-1) hii.1 ae h;rw[hii.2]at h4;exact aeX h4 h3
   ·obtain rfl:i=k-1:=ae;rw[hlast]at hi;cases hi;exact h3
  ·cases hi)
 rw[Xc0]at this;unfold rq;rw[hk,this]
theorem BA:∀ (l p:List (Ar α)),zh p->l.foldl (fun p x=>rq x p) p=l.foldl (fun p x=>o8 x p) p/\zh (l.foldl (fun p x=>o8 x p) p)
 | [],p,h=>⟨rfl,h⟩
 | x::l,p,h=>by
  rw[Qp0,Qp0,X0 x h];exact BA l _ (Bw x h)
theorem TB (pl:α->α->α):∀ (l p:List (Ar α)),zh p->mg pl (l.foldl (fun p x=>o8 x p) p)=l.foldl (fun p x=>bu pl x p) (mg pl p)
 | [],p,h=>rfl
 | x::l,p,h=>by
  rw[Qp0,Qp0,TB pl l _ (Bw x h),abT pl x p h]
def di (pl:α->α->α)(l:List (Ar α)):List (Ar α):=l.foldl (fun p x=>bu pl x p) []
theorem X3 (pl:α->α->α)(l:List (Ar α)):mg pl (bz l)=di pl l:=by
 unfold bz di;rw[(BA l [] (by simp[zh])).1];exact TB pl l [] (by simp[zh])
def jT (pl:α->α->α)(out:List (Ar α))(x:Ar α):List (Ar α) :=
 match out.getLast? with
 | some y=>if kV y x then out.dropLast++[iq pl y x] else out++[x]
 | none=>[x]
theorem kI (pl:α->α->α)(p:List (Ar α))(y x:Ar α):jT pl (p++[y]) x=if kV y x then p++[iq pl y x] else p++[y]++[x]:=by
 unfold jT;simp
theorem rz (pl:α->α->α):∀ (r p:List (Ar α)) (a:Ar α),r.foldl (jT pl) (p++[a])=p++uY pl a r
 | [],p,a=>rfl
 | b::r,p,a=>by
  rw[Qp0,kI,uY];split
  ·exact rz pl r p _
  ·rw[rz pl r (p++[a]) b,Qk2];rfl
theorem X4 (pl:α->α->α)(s:List (Ar α)):s.foldl (jT pl) []=mg pl s:=by
 cases s with
 | nil=>rfl
 | cons a r =>
  rw[Qp0];exact rz pl r [] a
end
end
section
variable {α:Type}
structure ML (kk:Int)(ps:List Int)(e:α->W)(pl:α->α->α)(z:W)(bT:α->Bool)(G:Nat->α->Prop)(m:Nat):Prop where
 mono:∀ n x,G n x->G (n+1) x
 zero:Ca E1 26 [.d (bD kk ps)] (.d z.d,none)
 pz:∀ x,G 1 x->Ca E1 14 [.d (bD kk ps),.d (e x).d,.d z.d] (.d (e x).d,none)
 tk:∀ x,G 1 x->Ca E1 53 [.d (bD kk ps),.d (e x).d] (.d (e x).d,none)
 p1:∀ n x y,n<m->G n x->G 1 y->Ca E1 14 [.d (bD kk ps),.d (e x).d,.d (e y).d] (.d (e (pl x y)).d,none)
 p2:∀ n x y,n<m->G n x->G 1 y->Ca E1 19 [.d (bD kk ps),.d (e x).d,.d (e y).d] (.d (e (pl x y)).d,none)
 pg:∀ n x y,n<m->G n x->G 1 y->G (n+1) (pl x y)
 z1:∀ n x,n<=m->G n x->Ca E1 1104 [.d (bD kk ps),.d (e x).d] (dB (bT x),none)
 z2:∀ n x,n<=m->G n x->Ca E1 1126 [.d (bD kk ps),.d (e x).d] (dB (bT x),none)
theorem ML.up {kk:Int}{ps:List Int}{e:α->W}{pl:α->α->α}{z:W}{bT:α->Bool}{G:Nat->α->Prop}{m:Nat}(h:ML kk ps e pl z bT G m){x:α}(hx:G 1 x):∀ n,G (n+1) x
 | 0=>hx
 | n+1=>h.mono _ _ (h.up hx n)
def xJ (x:Ar α)(aq:List (Ar α)):Nat:=(aq.findIdx? fun y => !decide (gP y x)).getD aq.length
theorem X5 (x:Ar α)(aq:List (Ar α)):xJ x aq<=aq.length:=by
 unfold xJ;cases h:aq.findIdx? (fun y => !decide (gP y x)) with
 | none=>exact Qd1 _
 | some k =>
  rw[Qr1]at h;exact X02 h.1
theorem Eg (x a:Ar α)(aq:List (Ar α)):xJ x (a::aq)=if gP a x then xJ x aq+1 else 0:=by
 unfold xJ;rw[Xt2]
 by_cases h:gP a x
 ·simp only[h,decide_true,Xh2,Qh1,if_false,if_true];cases aq.findIdx? (fun y => !decide (gP y x))<;>simp
 ·simp[h]
theorem BB (pl:α->α->α)(x:Ar α):∀ aq:List (Ar α),(∀ y,aq[xJ x aq]?=some y->¬ kV y x)->bu pl x aq=aq.take (xJ x aq)++x::aq.drop (xJ x aq)
 | [],_=>rfl
 | a::aq,h=>by
  rw[Eg]at h ⊢
  by_cases hl:gP a x
  ·rw[if_pos hl]at h ⊢;rw[bu,if_pos hl,BB pl x aq (fun y hy=>h y (by simpa using hy))];rfl
  ·rw[if_neg hl]at h ⊢;rw[bu,if_neg hl,if_neg (h a rfl)];rfl
theorem yK (pl:α->α->α)(x y:Ar α):∀ aq:List (Ar α),aq[xJ x aq]?=some y->kV y x->bu pl x aq=aq.set (xJ x aq) (iq pl y x)
 | [],h,_=>by simp at h
 | a::aq,h,he=>by
  rw[Eg]at h ⊢
  by_cases hl:gP a x
  ·rw[if_pos hl]at h ⊢;rw[bu,if_pos hl,yK pl x y aq (by simpa using h) he];rfl
  ·rw[if_neg hl]at h ⊢;simp at h;subst h;rw[bu,if_neg hl,if_pos he];rfl
theorem uC (pl:α->α->α)(x:Ar α):∀ aq:List (Ar α),(bu pl x aq).length<=aq.length+1
 | []=>by simp[bu]
 | a::aq=>by
  unfold bu;have:=uC pl x aq;split
  ·simp;omega
  ·split<;>simp
theorem o9 (pl:α->α->α)(x:Ar α)(P Q:Ar α->Prop)(hx:Q x)(hPQ:∀ y,P y->Q y)(hpl:∀ y,P y->Q (iq pl y x)):∀ aq:List (Ar α),(∀ y ∈ aq,P y)->∀ y ∈ bu pl x aq,Q y
 | [],_,y,hy=>by simp[bu]at hy;subst hy;exact hx
 | a::aq,h,y,hy=>by
  unfold bu at hy;split at hy
  ·rcases Qg1.1 hy with rfl|hy
   ·exact hPQ _ (h _ aC)
   ·exact o9 pl x P Q hx hPQ hpl aq (fun y hy=>h y (by simp[hy])) y hy
  ·split at hy
   ·rcases Qg1.1 hy with rfl|hy
    ·exact hpl _ (h _ aC)
    ·exact hPQ _ (h _ (by simp[hy]))
   ·rcases Qg1.1 hy with rfl|hy
    ·exact hx
    ·exact hPQ _ (h _ hy)
theorem KS (pl:α->α->α)(x:Ar α)(P Q:Ar α->Prop)(hx:Q x)(hPQ:∀ y,P y->Q y)(hpl:∀ y,P y->Q (iq pl y x))(aq:List (Ar α))(h:∀ y ∈ aq,P y):∀ y ∈ jT pl aq x,Q y:=by
 intro y hy;rcases Q72 aq with rfl|⟨q,a,rfl⟩
 ·simp[jT]at hy;subst hy;exact hx
 ·rw[Q10]at*;rw[kI]at hy;split at hy
  ·rcases Qw2.1 hy with hy|hy
   ·exact hPQ _ (h _ (by simp[hy]))
   ·simp at hy;subst hy;exact hpl _ (h _ aC)
  ·rcases Qw2.1 hy with hy|hy
   ·exact hPQ _ (h _ hy)
   ·simp at hy;subst hy;exact hx
theorem KT (pl:α->α->α)(x:Ar α)(aq:List (Ar α)):(jT pl aq x).length<=aq.length+1:=by
 rcases Q72 aq with rfl|⟨q,a,rfl⟩
 ·simp[jT]
 ·rw[Q10,kI];split<;>simp
theorem TC {x:Ar α}{p:List (Ar α)}{y:Ar α}(h:y ∈ rq x p):y=x\/y ∈ p:=by
 unfold rq at h;rcases Qw2.1 h with h|h
 ·exact .inr (Qs2 h)
 ·rcases Qg1.1 h with h|h
  ·exact .inl h
  ·exact .inr (Q00 h)
theorem yL:∀ (l p:List (Ar α)) {y:Ar α},y ∈ l.foldl (fun p x=>rq x p) p->y ∈ p\/y ∈ l
 | [],p,y,h=>.inl h
 | x::l,p,y,h=>by
  rw[Qp0]at h;rcases yL l _ h with h|h
  ·rcases TC h with h|h
   ·exact .inr (by simp[h])
   ·exact .inl h
  ·exact .inr (by simp[h])
theorem Iw {l:List (Ar α)}{y:Ar α}(h:y ∈ bz l):y ∈ l:=by
 rcases yL l [] h with h|h
 ·simp at h
 ·exact h
end
end Fi.S
noncomputable section
namespace Fi.S
open Go Fi
set_option maxHeartbeats 8000000
set_option maxRecDepth 10000
theorem OJ {k:Int}(hk:single k=true){S T M M':Nat}(hS:1<=S)(hT:1<=T){x y:Sv}(hx:x.of k S M)(hy:y.of k T M'):(ek k x y).of k (S+T+1) (M+M'):=by
 rcases bR hk with rfl|rfl|rfl|rfl|rfl
 ·obtain⟨a,rfl,h1⟩:=of1 hx;obtain⟨b,rfl,h2⟩:=of1 hy;refine⟨.inl rfl,?_⟩;have:=xx a b;show qz (a+b)<=_;omega
 ·obtain⟨a,n,rfl,h1⟩:=of2 hx;obtain⟨b,m,rfl,h2⟩:=of2 hy;show Sv.of 2 _ _ (if vN b m a n then .c b m else .c a n);split
  ·exact hy
  ·exact hx
 ·obtain⟨a,rfl,h1⟩:=of3 hx;obtain⟨b,rfl,h2⟩:=of3 hy;show Sv.of 3 _ _ (if a<b then .q b else .q a);split
  ·exact Sv.of.mono hy ae ae
  ·exact Sv.of.mono hx ae ae
 ·obtain⟨a,rfl,h1⟩:=of4 hx;obtain⟨b,rfl,h2⟩:=of4 hy;exact⟨rfl,XP a b⟩
 ·obtain⟨a,rfl,h1,h2⟩:=of5 hx;obtain⟨b,rfl,h3,h4⟩:=of5 hy;exact⟨rfl,Bi hS hT h1 h3,Qe2 (Ia a b) (Nat.add_le_add h2 h4)⟩
theorem KU {S T M M':Nat}(hS:1<=S)(hT:1<=T){ps:List Int}(hs:∀ k ∈ ps,single k=true){xs ys:List Sv}(hx:mK S M ps xs)(hy:mK T M' ps ys):mK (S+T+1) (M+M') ps (kG ps xs ys):=by
 refine⟨by simp[kG,hx.1,hy.1],fun i k z hk hz => ?_⟩;obtain⟨k',x,y,h1,h2,h3,rfl⟩:=Bq hz;rw[hk]at h1;cases h1;exact OJ (hs k (Qb2 hk)) hS hT (hx.2 i k x hk h2) (hy.2 i k y hk h3)
def xK (kk:Int)(ps:List Int):List Sv:=(lI kk ps).map gX
def BC (kk:Int)(ps:List Int)(xs:List Sv):Bool:=(gN kk xs).eq (gN kk (xK kk ps))
def rA (kk:Int)(ps:List Int)(n:Nat)(xs:List Sv):Prop:=1<=n/\mK (4*n-1) (8*n) (lI kk ps) xs
theorem TD {kk:Int}{ps:List Int}(hv:aR kk ps=true){S M:Nat}{xs:List Sv}(hS:S<=1000)(hx:mK S M (lI kk ps) xs) :
  Ca E1 1104 [.d (bD kk ps),.d (gN kk xs).d] (dB (BC kk ps xs),none)/\Ca E1 1126 [.d (bD kk ps),.d (gN kk xs).d] (dB (BC kk ps xs),none):=by
 have ok1:=Ik hv hS hx;have ok0:(gN kk (xK kk ps)).OK:=Ik hv (S:=1) (M:=1) ae (xH ae (jS hv));obtain⟨K,hK,a1,a2,a3,a4⟩:=((Ca.jg (jl _ ok1 _ ok0)).j ((Ca.jg (rZ _ ok1 _ ok0)).j ((Ee hv).j ((XT hv).any)))).at 0;unfold BC;rw[show(lI kk ps).map gX=xK kk ps from rfl]at a3 a4;generalize (gN kk xs).eq (gN kk (xK kk ps))=b at*;obtain⟨xs',xl1,xl2,xc,xb,xu,xp,xq,ex⟩:=(gN kk xs).bq;obtain⟨zs,Gn,Gp,zc,zb,zu,zp,zq,ez⟩:=(gN kk (xK kk ps)).bq;simp only[ex,ez]at*;clear ok1 ok0 hx ex ez hv;unfold wD bD at*;refine⟨?_,?_⟩
 ·refine Ca.bO (n:=K+100) ?_;rw[aB rfl (aN 1104 f1104:E1.fn _=_) rfl];simp[f1104,a1,a3]
 ·refine Ca.bO (n:=K+100) ?_;rw[aB rfl (aN 1126 f1126:E1.fn _=_) rfl];simp[f1126,a2,a4]
theorem ahf {kk:Int}{ps:List Int}(hv:aR kk ps=true):ML kk ps (gN kk) (kG (lI kk ps)) (gN kk (xK kk ps)) (BC kk ps) (rA kk ps) 20 where
 mono n x h:=⟨ae,h.2.mono ae ae⟩
 zero:=Ee hv
 pz x h:=by
  have h3:mK 3 8 (lI kk ps) x:=h.2;have:=MG hv ae ae h3 (xH (M:=8) ae (jS hv));rw[KP (S:=3) (M:=8) ae (jS hv) h3]at this;exact this
 tk x h:=FE hv ae ae h.2
 p1 n x y hn hx hy:=by
  have h1:=hx.1;refine MG hv (S:=75) (M:=152) ae ae (hx.2.mono ae ae) (hy.2.mono ae ae)
 p2 n x y hn hx hy:=by
  have h1:=hx.1;refine Tv hv (S:=75) (M:=152) ae ae (hx.2.mono ae ae) (hy.2.mono ae ae)
 pg n x y hn hx hy:=by
  have h1:=hx.1;exact⟨ae,(KU ae ae (jS hv) hx.2 hy.2).mono ae ae⟩
 z1 n x hn hx:=(TD hv ae hx.2).1
 z2 n x hn hx:=(TD hv ae hx.2).2
end Fi.S
