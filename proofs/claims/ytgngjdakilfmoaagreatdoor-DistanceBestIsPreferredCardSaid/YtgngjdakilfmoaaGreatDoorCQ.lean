import Derived.Test.YtgngjdakilfmoaaGreatDoorCP
set_option linter.unusedVariables false
set_option linter.unusedSimpArgs false
noncomputable section
namespace Fi
open Go
section
section
variable {E:Env} {α β:Type} {b:aF}
theorem Ex.DV (l:List α)(p:α->Bool)(S:Nat->St)(R:Out × St)(F:Nat->Out × St)(hR:R.1≠.norm)(hF:∀ j,(F j).1≠.norm)
  (round:∀ (j:Nat) (a:α),l[j]?=some a->Ex E b (S j) (if p a then F j else(.norm,S (j+1)))) (last:Ex E b (S l.length) R):Ex E (.loop b) (S 0) (match l.findIdx? p with
   | some j=>F j
   | none=>R):=by
 have key:∀ (d j:Nat),j+d=l.length->(∀ i a,i<j->l[i]?=some a->p a=false)->Ex E (.loop b) (S j) (match l.findIdx? p with
   | some j=>F j
   | none=>R):=by
  intro d
  induction d with
  | zero =>
   intro j hj hno;obtain rfl:j=l.length:=ae;have:l.findIdx? p=none:=by
    rw[Xj1];intro x hx;obtain⟨i,hi⟩:=Xi1.1 hx;exact hno i x (aT hi) hi
   rw[this];exact Ex.leave last hR
  | succ d ih =>
   intro j hj hno;have hlt:j<l.length:=ae;have hr:=round j _ (Qa1 hlt);cases hp:p l[j] with
   | true =>
    rw[hp]at hr;have:l.findIdx? p=some j:=by
     rw[Qu2];exact⟨hlt,hp,fun i hi=>by rw[hno i _ hi (Qa1 ae)];simp⟩
    rw[this];exact Ex.leave hr (hF j)
   | false =>
    rw[hp]at hr;refine Ex.next hr (ih (j+1) ae (fun i a hi ha => ?_))
    rcases Qg0 i j with h|h
    ·exact hno i a h ha
    ·obtain rfl:i=j:=ae;rw[Qa1 hlt]at ha;cases ha;exact hp
 exact key l.length 0 ae (fun i a hi=>by omega)
theorem Ex.fold (l:List α)(f:β->α->β)(z:β)(I:Nat->β->St->Prop)(Q:β->Out × St->Prop)
  (round:∀ (j:Nat) (a:α) (st:St),l[j]?=some a->I j ((l.take j).foldl f z) st->∃ st',Ex E b st (.norm,st')/\I (j+1) (f ((l.take j).foldl f z) a) st')
  (last:∀ st,I l.length (l.foldl f z) st->∃ r,Ex E b st r/\r.1≠.norm/\Q (l.foldl f z) r) {st:St} (h0:I 0 z st):∃ r,Ex E (.loop b) st r/\Q (l.foldl f z) r:=by
 have key:∀ (d j:Nat) (st:St),j+d=l.length->I j ((l.take j).foldl f z) st->∃ r,Ex E (.loop b) st r/\Q (l.foldl f z) r:=by
  intro d
  induction d with
  | zero =>
   intro j st hj hI;obtain rfl:j=l.length:=ae;rw[Qk0]at hI;obtain⟨r,h1,h2,h3⟩:=last st hI;exact⟨r,Ex.leave h1 h2,h3⟩
  | succ d ih =>
   intro j st hj hI;have hlt:j<l.length:=ae;obtain⟨st',h1,h2⟩:=round j _ st (Qa1 hlt) hI;have h3:(l.take (j+1)).foldl f z=f ((l.take j).foldl f z) l[j]:=by rw[Qp2 hlt,Xx0];rfl
   rw[<-h3]at h2;obtain⟨r,h4,h5⟩:=ih (j+1) st' ae h2;exact⟨r,h1.next h4,h5⟩
 exact key l.length 0 st ae (by simpa using h0)
end
end
end Fi
namespace Fi.S
open Go Fi
set_option maxHeartbeats 8000000
section
structure Ar (α:Type) where
 f:Int
 l:Int
 t:Int
 x:α
def rV (f l t:Int)(s:Bool)(l1 l2:List D)(c:Int)(b:Bool)(u:Int)(p ps:List D):D:=.a [vI f,vI l,vI t,vB s,.s 1 l1,.s 1 l2,vI c,vB b,.v (.int .u64 u),.s 6 p,.s 8 ps]
variable {α:Type}
def Ar.d (e:α->W)(a:Ar α):D:=.a (vI a.f::vI a.l::vI a.t::(e a.x).d.cells)
theorem Ar.iA (e:α->W)(a:Ar α):∃ s l1 l2 c b u p ps,(e a.x).d=wD s l1 l2 c b u p ps/\a.d e=rV a.f a.l a.t s l1 l2 c b u p ps:=by
 obtain⟨s,l1,l2,c,b,u,p,ps,h⟩:=(e a.x).aH;exact⟨s,l1,l2,c,b,u,p,ps,h,by unfold Ar.d rV;rw[h];rfl⟩
def or3 (x y z:Int):Int:=if x=0 then if y=0 then z else y else x
def lQ (a b:Ar α):Int:=or3 (f_ a.f b.f) (f_ a.l b.l) (f_ a.t b.t)
theorem aeD (n:Nat)(x y z:Int):CL E0 (n+200) 1109 [.d (.s 1 [vI x,vI y,vI z])] []=some (dI (or3 x y z),none):=by
 have w1:ak .i64 1=1:=wrap_i64 ae;have w2:ak .i64 2=2:=wrap_i64 ae;have w3:ak .i64 3=3:=wrap_i64 ae;rw[aA rfl (aO 1109 f1109:E0.fn _=_) rfl];unfold or3
 by_cases h1:x=0
 ·subst h1
  by_cases h2:y=0
  ·subst h2
   by_cases h3:z=0
   ·subst h3;simp[f1109,aD,w1,w2,w3]
   ·have e3:(z != 0)=true:=by simpa using h3
    simp[f1109,aD,w1,w2,w3,e3]
  ·have e2:(y != 0)=true:=by simpa using h2
   simp[f1109,aD,w1,w2,w3,e2,h2]
 ·have e1:(x != 0)=true:=by simpa using h1
  simp[f1109,aD,w1,w2,w3,e1,h1]
theorem DW (e:α->W)(n:Nat)(a b:Ar α):CL E0 (n+400) 1070 [.d (a.d e),.d (b.d e)] []=some (dI (lQ a b),none):=by
 obtain⟨s,l1,l2,c,i,u,p,ps,_,ea⟩:=a.iA e;obtain⟨s',l1',l2',c',i',u',p',ps',_,eb⟩:=b.iA e;rw[ea,eb];have c1:=fun m=>pG m a.f b.f
 have c2:=fun m=>pG m a.l b.l
 have c3:=fun m=>pG m a.t b.t
 have t:=fun m=>aeD m (f_ a.f b.f) (f_ a.l b.l) (f_ a.t b.t)
 unfold lQ;generalize f_ a.f b.f=x,f_ a.l b.l=y,f_ a.t b.t=z at*;generalize or3 x y z=r at*;rw[aA rfl (aO 1070 f1070:E0.fn _=_) rfl];unfold rV;simp[f1070,c1,c2,c3,t]
end
section
variable {α:Type} {e:α->W}
def inM:aF:=f1208.body.r.bl.lp.r.l.bl.r.bl.lp
def NA (o av n:Nat)(B:List ah)(i j:Nat)(t:FV)(dt:Bool):St :=
 {vars:=[.ls (.old o) av 11 0 n,dI 0,dI n,.d (.fn 1070),dI i,dI j,.u,t],base:=B,loc:=[],aX:=dt}
theorem aaU (o av n:Nat)(B:List ah)(i k:Nat)(dt:Bool)(es:List D)(x y:Ar α)(hB:B[o]?=some (.row av 11 es))(hn:es.length=n)(hn2:n<=1000000)(hx:es[k+1]?=some (x.d e))(hy:es[k]?=some (y.d e))(hlt:lQ x y<0) :
  Ex E0 inM (NA o av n B i (k+1) .u dt) (.norm,NA o av n (B.set o (.row av 11 ((es.set (k+1) (y.d e)).set k (x.d e)))) i k .u true):=by
 have t:=fun m=>DW e m x y
 have hol:o<B.length:=(aT hB)
 have hkl:k+1<es.length:=(aT hx)
 have hkn:(k:Int)+1<(n:Int):=ae;have hkn2:(k:Int)<(n:Int):=ae;have hk0:(0:Int)<=(k:Int):=ae;have hk1:(0:Int)<=(k:Int)+1:=ae;have hgt:(0:Int)<(k:Int)+1:=ae;have tn:((k:Int)+1).toNat=k+1:=ae;have hw:ak .i64 (k:Int)=(k:Int):=wrap_i64 ae;have hk2:((k+1:Nat):Int)=(k:Int)+1:=ae;have s1:∀ r,(es.set (k+1) r)[k]?=some (y.d e):=fun r=>by rw[Qb2 ae];exact hy
 generalize lQ x y=od at*;obtain⟨s,l1,l2,c,b,u,p,ps,_,ex⟩:=x.iA e;obtain⟨s',l1',l2',c',b',u',p',ps',_,ey⟩:=y.iA e;simp only[ex,ey]at t hx hy s1 ⊢;clear ex ey;unfold rV at*;generalize x.f=xf,x.l=xl,x.t=xt,y.f=yf,y.l=yl,y.t=yt at*;have qB:k<es.length:=ae;refine Ex.of (n:=500) ?_;unfold NA;rw[hk2];have i1:=idx hx;have i2:=idx hy;have i3:=idx hB;have i4:∀ r (h:k<(es.set (k+1) r).length),(es.set (k+1) r)[k]=_:=fun r h=>idx (s1 r) h
 simp[inM,f1208,t,hol,hkl,hkn,hkn2,hk0,hk1,hgt,tn,hw,hB,hx,hy,s1,i1,i2,i3,i4,hlt,qB,hn]
theorem aaV (o av n:Nat)(B:List ah)(i k:Nat)(dt:Bool)(es:List D)(x y:Ar α)(hB:B[o]?=some (.row av 11 es))(hn:es.length=n)(hn2:n<=1000000)(hx:es[k+1]?=some (x.d e))(hy:es[k]?=some (y.d e))(hlt:¬ lQ x y<0) :
  Ex E0 inM (NA o av n B i (k+1) .u dt) (.exit 2,NA o av n B i (k+1) (dB false) dt):=by
 have t:=fun m=>DW e m x y
 have hol:o<B.length:=(aT hB)
 have hkl:k+1<es.length:=(aT hx)
 have hkn:(k:Int)+1<(n:Int):=ae;have hkn2:(k:Int)<(n:Int):=ae;have hk0:(0:Int)<=(k:Int):=ae;have hk1:(0:Int)<=(k:Int)+1:=ae;have hgt:(0:Int)<(k:Int)+1:=ae;have tn:((k:Int)+1).toNat=k+1:=ae;have hw:ak .i64 (k:Int)=(k:Int):=wrap_i64 ae;have hk2:((k+1:Nat):Int)=(k:Int)+1:=ae;generalize lQ x y=od at*;have hge:0<=od:=ae;obtain⟨s,l1,l2,c,b,u,p,ps,_,ex⟩:=x.iA e;obtain⟨s',l1',l2',c',b',u',p',ps',_,ey⟩:=y.iA e;simp only[ex,ey]at t hx hy ⊢;clear ex ey;unfold rV at*;generalize x.f=xf,x.l=xl,x.t=xt,y.f=yf,y.l=yl,y.t=yt at*;have qB:k<es.length:=ae;refine Ex.of (n:=500) ?_;unfold NA;rw[hk2];have i1:=idx hx;have i2:=idx hy;have i3:=idx hB;simp[inM,f1208,t,hol,hkl,hkn,hkn2,hk0,hk1,hgt,tn,hw,hB,hx,hy,i1,i2,i3,hlt,qB,hn,hge]
theorem aaW (o av n:Nat)(B:List ah)(i:Nat)(dt:Bool):Ex E0 inM (NA o av n B i 0 .u dt) (.exit 2,NA o av n B i 0 (dB false) dt):=by
 refine Ex.of (n:=100) ?_;unfold NA;simp[inM,f1208]
end
section
variable {α:Type} {e:α->W}
def dW (x:Ar α)(p:List (Ar α)):Nat->Nat
 | 0=>0
 | j+1=>match p[j]? with
  | some y=>if lQ x y<0 then dW x p j else j+1
  | none=>j+1
theorem zn (x:Ar α)(p:List (Ar α)):∀ j,dW x p j<=j
 | 0=>Qd2 _
 | j+1=>by
  unfold dW;split
  ·split
   ·exact Nat.le_succ_of_le (zn x p j)
   ·exact Qd2 _
  ·exact Qd2 _
def tH (x:Ar α)(p:List (Ar α)):List (Ar α):=p.take (dW x p p.length)++x::p.drop (dW x p p.length)
def bC (l:List (Ar α)):List (Ar α):=l.foldl (fun p x=>tH x p) []
theorem WE (x:Ar α)(p:List (Ar α)):(tH x p).length=p.length+1:=by
 unfold tH;have:=zn x p p.length;simp only[Qb0,Qq0,Qf2,Xb1];omega
theorem Ao:∀ (l p:List (Ar α)),(l.foldl (fun p x=>tH x p) p).length=p.length+l.length
 | [],p=>rfl
 | x::l,p=>by rw[Ql1,Ao l,WE];simp;omega
theorem lS (l:List (Ar α)):(bC l).length=l.length:=by
 unfold bC;rw[Ao];simp
def L6 (e:α->W)(p q:List (Ar α))(x:Ar α)(j:Nat):List D:=((p.take j++x::p.drop j)++q).map (Ar.d e)
theorem aaX (p q:List (Ar α))(x:Ar α)(j:Nat)(h:j<=p.length):(L6 e p q x j).length=p.length+1+q.length:=by
 unfold L6;simp only[Qj1,Qb0,Qq0,Qf2,Xb1];omega
theorem acz {p q:List (Ar α)}{x:Ar α}{j:Nat}(h:j<=p.length):(L6 e p q x j)[j]?=some (x.d e):=by
 unfold L6;rw[Qb1,Qm2,Qc0 (by simp[Xs2 h])];simp[Xs2 h]
theorem acA {p q:List (Ar α)}{x y:Ar α}{j:Nat}(h:p[j]?=some y):(L6 e p q x (j+1))[j]?=some (y.d e):=by
 have hj:=(aT h)
 unfold L6;rw[Qb1,Qm2,Qa0 (by simp;omega),Qp0,if_pos ae,h];rfl
theorem WG {p q:List (Ar α)}{x y:Ar α}{j:Nat}(h:p[j]?=some y):((L6 e p q x (j+1)).set (j+1) (y.d e)).set j (x.d e)=L6 e p q x j:=by
 obtain⟨hj,hy⟩:=Qy1.1 h;subst hy;unfold L6;rw[Qp2 hj,Qj2 hj];simp only[Qn0,Qe2,Qm2,Xb0,Qv2,Qc2];have hl:(List.map (Ar.d e) (List.take j p)).length=j:=by simp;omega
 rw[Q00 _ _ ae,Q00 _ _ ae,hl];simp
theorem PH (o av n i:Nat)(B:List ah)(ho:o<B.length)(p q:List (Ar α))(x:Ar α)(hn:p.length+1+q.length=n)(hn2:n<=1000000):∀ (j:Nat),j<=p.length->∀ dt,∃ EU,
  Ex E0 (.loop inM) (NA o av n (B.set o (.row av 11 (L6 e p q x j))) i j .u dt) (.exit 2,NA o av n (B.set o (.row av 11 (L6 e p q x (dW x p j)))) i (dW x p j) (dB false) EU)/\(EU=false->dt=false/\dW x p j=j)
 | 0,_,dt=>⟨dt,Ex.leave (aaW o av n _ i dt) aC,fun h=>⟨h,rfl⟩⟩
 | j+1,hj,dt=>by
  have hy:p[j]?=some p[j]:=Qa1 ae;have hl:=aaX (e:=e) p q x (j+1) hj;have hB:(B.set o (.row av 11 (L6 e p q x (j+1))))[o]?=some (.row av 11 (L6 e p q x (j+1))):=Qd1 ho
  by_cases hlt:lQ x p[j]<0
  ·have hp:dW x p (j+1)=dW x p j:=by simp only[dW,hy,if_pos hlt]
   rw[hp];have hr:=aaU o av n _ i j dt _ x p[j] hB ae hn2 (acz hj) (acA hy) hlt;rw[WG hy,List.set_set]at hr;obtain⟨EU,h1,h2⟩:=PH o av n i B ho p q x hn hn2 j ae true;exact⟨EU,hr.next h1,fun h=>absurd (h2 h).1 aC⟩
  ·have hp:dW x p (j+1)=j+1:=by simp only[dW,hy,if_neg hlt]
   rw[hp];exact⟨dt,Ex.leave (aaV o av n _ i j dt _ x p[j] hB ae hn2 (acz hj) (acA hy) hlt) aC,fun h=>⟨h,rfl⟩⟩
def tJ (o av n:Nat)(B:List ah)(i:Nat)(t:FV)(dt:Bool):St :=
 {vars:=[.ls (.old o) av 11 0 n,dI 0,dI n,.d (.fn 1070),dI i,.u,t,.u],base:=B,loc:=[],aX:=dt}
def NB:aF:=f1208.body.r.bl.lp
theorem RH (o av n i:Nat)(B:List ah)(ho:o<B.length)(p q:List (Ar α))(x:Ar α)(hp:p.length=i)(hn:p.length+1+q.length=n)(hn2:n<=1000000)(dt:Bool):∃ EU,
  Ex E0 NB (tJ o av n (B.set o (.row av 11 ((p++x::q).map (Ar.d e)))) i .u dt) (.norm,tJ o av n (B.set o (.row av 11 ((tH x p++q).map (Ar.d e)))) (i+1) .u EU)/\(EU=false->dt=false/\tH x p=p++[x]):=by
 obtain⟨EU,h1,h2⟩:=PH o av n i B ho p q x hn hn2 p.length (Qd2 _) dt;have e0:L6 e p q x p.length=(p++x::q).map (Ar.d e):=by unfold L6;simp
 have e1:L6 e p q x (dW x p p.length)=(tH x p++q).map (Ar.d e):=rfl;rw[e0,e1]at h1;refine⟨EU,?_,fun h=>⟨(h2 h).1,by unfold tH;rw[(h2 h).2];simp⟩⟩;have hin:(i:Int)<(n:Int):=ae;have hw:ak .i64 ((i:Int)+1)=(i:Int)+1:=wrap_i64 ae;have hi1:((i+1:Nat):Int)=(i:Int)+1:=ae;generalize (p++x::q).map (Ar.d e)=e2 at*;generalize (tH x p++q).map (Ar.d e)=e3,dW x p p.length=j2 at*;rw[hp]at h1;refine Ex.seq (st1:=tJ o av n (B.set o (.row av 11 e2)) i (dB true) dt) (Ex.of (n:=60) (by unfold tJ;simp[NB,f1208,hin])) ?_;refine Ex.seq (st1:=NA o av n (B.set o (.row av 11 e3)) i j2 (dB false) EU) (Ex.eZ (Ex.seq (st1:=NA o av n (B.set o (.row av 11 e2)) i i .u dt) (Ex.of (n:=60) (by unfold tJ NA;simp[NB,f1208])) (Ex.block h1))) ?_;apply e6;unfold tJ NA;rw[hi1];simp[NB,f1208,hw]
theorem KG (o av n i:Nat)(B:List ah)(hi:n<=i)(dt:Bool):Ex E0 NB (tJ o av n B i .u dt) (.exit 0,tJ o av n B i (dB false) dt):=by
 apply e6;have hin:¬ (i:Int)<(n:Int):=ae;have hin2:(n:Int)<=(i:Int):=ae;unfold tJ;simp[NB,f1208,hin,hin2]
theorem KH (o av:Nat)(B:List ah)(ho:o<B.length)(l:List (Ar α))(hn2:l.length<=1000000):∀ (d i:Nat),i+d=l.length->∀ dt,∃ EU,
  Ex E0 (.loop NB) (tJ o av l.length (B.set o (.row av 11 ((bC (l.take i)++l.drop i).map (Ar.d e)))) i .u dt) (.exit 0,tJ o av l.length (B.set o (.row av 11 ((bC l).map (Ar.d e)))) l.length (dB false) EU) /\
   (EU=false->dt=false/\bC l=bC (l.take i)++l.drop i)
 | 0,i,hi,dt=>by
  obtain rfl:i=l.length:=ae;rw[Qk0,Qv1,Q10];exact⟨dt,Ex.leave (KG o av _ _ _ (Qd2 _) dt) aC,fun h=>⟨h,rfl⟩⟩
 | d+1,i,hi,dt=>by
  have hlt:i<l.length:=ae;have e1:bC (l.take (i+1))=tH l[i] (bC (l.take i)):=by
   unfold bC;rw[Qp2 hlt,Xx0];rfl
  obtain⟨dt1,h1,h2⟩:=RH o av l.length i B ho (bC (l.take i)) (l.drop (i+1)) l[i] (by rw[lS];simp;omega) (by rw[lS];simp;omega) hn2 dt;rw[<-Qj2 hlt,<-e1]at h1;obtain⟨dt2,h3,h4⟩:=KH o av B ho l hn2 d (i+1) ae dt1;refine⟨dt2,h1.next h3,fun h => ?_⟩;obtain⟨g1,g2⟩:=h4 h;obtain⟨g3,g4⟩:=h2 g1;refine⟨g3,?_⟩;rw[g2,e1,g4,Qm2,List.singleton_append,<-Qj2 hlt]
def sorted (e:α->W)(o av:Nat)(B:List ah)(l:List (Ar α))(r:FV × Option (List ah)):Prop :=
 (r=(.d (.t []),none)/\bC l=l)\/r=(.d (.t []),some (B.set o (.row av 11 ((bC l).map (Ar.d e)))))
theorem aeF (o av:Nat)(B:List ah)(l:List (Ar α))(hB:B[o]?=some (.row av 11 (l.map (Ar.d e))))(hO:∀ n,B.map (ah.az n)=B)(hn:l.length<=1000000) :
  ∃ r N,(∀ m,CL E0 (N+m) 1208 [.ls (.old o) av 11 0 l.length,dI 0,dI l.length,.d (.fn 1070)] B=some r)/\sorted e o av B l r:=by
 have ho:o<B.length:=(aT hB)
 have hself:B.set o (.row av 11 (l.map (Ar.d e)))=B:=by
  obtain⟨h,e⟩:=Qy1.1 hB;rw[<-e,X12]
 have hset:∀ n r,(∀ k,ah.az k r=r)->(B.set o r).map (ah.az n)=B.set o r:=fun n r hr=>by rw[Q51,hO,hr]
 obtain⟨dt,st,hrun,hdt,hst⟩:∃ (dt:Bool) (i:Nat),Ex E0 f1208.body (tJ o av l.length B 0 .u false |> fun s=>{s with vars:=(.ls (.old o) av 11 0 l.length::dI 0::dI l.length::.d (.fn 1070)::wW)}) (.norm,tJ o av l.length (B.set o (.row av 11 ((bC l).map (Ar.d e)))) i (dB false) dt)/\(dt=false->bC l=l)/\True:=by
  have h0:Ex E0 f1208.body.l (tJ o av l.length B 0 .u false |> fun s=>{s with vars:=(.ls (.old o) av 11 0 l.length::dI 0::dI l.length::.d (.fn 1070)::wW)}) (.norm,tJ o av l.length B 1 .u false):=by
   apply e6;have w1:ak .i64 1=1:=wrap_i64 ae;unfold tJ;simp[f1208,w1]
  cases l with
  | nil =>
   refine⟨false,1,?_,fun _=>rfl,trivial⟩;have h1:=KG o av 0 1 B ae false;simp only[Qc2]at hself;have e1:(bC ([]:List (Ar α))).map (Ar.d e)=[]:=rfl;rw[e1,hself];exact Ex.seq h0 (Ex.block (Ex.leave h1 aC))
  | cons a l =>
   obtain⟨dt,h1,h2⟩:=KH o av B ho (a::l) hn l.length 1 (by simp;omega) false;have e1:bC ((a::l).take 1)++(a::l).drop 1=a::l:=by simp[bC,tH,dW]
   rw[e1,hself]at h1;rw[e1]at h2;exact⟨dt,_,Ex.seq h0 (Ex.block h1),fun h=>(h2 h).2,trivial⟩
 obtain⟨N,hN⟩:=qN (E:=E0) (g:=1208) (F:=f1208) (args:=[.ls (.old o) av 11 0 l.length,dI 0,dI l.length,.d (.fn 1070)]) (B:=B) (o:=.norm)
  (r:=if dt then(.d (.t []),some (B.set o (.row av 11 ((bC l).map (Ar.d e))))) else(.d (.t []),none)) rfl (k1208:E0.fn _=_) rfl hrun aC (by
   have hm:=hset (B.set o (.row av 11 ((bC l).map (Ar.d e)))).length (.row av 11 ((bC l).map (Ar.d e))) (fun _=>rfl);cases dt<;>simp[finish,mo,show f1208.res=[] from rfl,show f1208.ref=true from rfl,fD,oneOf,rH,jN,kJ,tJ,FV.az,hset,ah.az,hO])
 refine⟨_,N,hN,?_⟩;cases dt with
 | true=>exact .inr rfl
 | false=>exact .inl ⟨rfl,hdt rfl⟩
end
section
variable {α:Type} {e:α->W}
theorem H9 (o av:Nat)(B:List ah)(l:List (Ar α))(hB:B[o]?=some (.row av 11 (l.map (Ar.d e))))(hO:∀ n,B.map (ah.az n)=B)(hn:l.length<20) :
  ∃ r N,(∀ m,CL E0 (N+m) 1138 [.ls (.old o) av 11 0 l.length,dI l.length,.d (.fn 1070)] B=some r)/\sorted e o av B l r:=by
 obtain⟨r,N,t,hs⟩:=aeF o av B l hB hO ae;refine⟨r,N+200,fun m => ?_,hs⟩;have h1:¬ (20:Int)<=(l.length:Int):=ae;have h2:¬ (20:Int)<(l.length:Int):=ae;have h1':(l.length:Int)<20:=ae;have h2':(l.length:Int)<=20:=ae;have hne:N+200+m=(N+m)+200:=ae;have hB0:B≠[]:=by intro h;rw[h]at hB;cases hB
 rw[hne,aA rfl (k1138:E0.fn _=_) rfl];replace t:=fun k=>dC (t 0) (show N+0<=N+m+k by omega)
 rcases hs with ⟨rfl,_⟩|rfl
 ·generalize l.length=n at*;simp[f1138,aD,t,hO,h1,h2,h1',h2',FV.az,FV.aP,rH]
 ·have hO1:∀ k,(B.set o (.row av 11 ((bC l).map (Ar.d e)))).map (ah.az k)=B.set o (.row av 11 ((bC l).map (Ar.d e))):=fun k=>by rw[Q51,hO];rfl
  have tk:(B.set o (.row av 11 ((bC l).map (Ar.d e)))).take B.length=B.set o (.row av 11 ((bC l).map (Ar.d e))):=Qe1 aC;have dp:(B.set o (.row av 11 ((bC l).map (Ar.d e)))).drop B.length=[]:=Xn0 aC;generalize B.set o (.row av 11 ((bC l).map (Ar.d e)))=B1,l.length=n at*;simp[f1138,aD,t,hB0,hO,hO1,tk,dp,h1,h2,h1',h2',FV.az,FV.aP,rH]
theorem RI (o av:Nat)(B:List ah)(l:List (Ar α))(hB:B[o]?=some (.row av 11 (l.map (Ar.d e))))(hO:∀ n,B.map (ah.az n)=B)(hn:l.length<20) :
  ∃ r N,(∀ m,CL E0 (N+m) 1101 [.ls (.old o) av 11 0 l.length,.d (.fn 1070)] B=some r)/\sorted e o av B l r:=by
 obtain⟨r,N,t,hs⟩:=H9 o av B l hB hO hn;refine⟨r,N+200,fun m => ?_,hs⟩;have hne:N+200+m=(N+m)+200:=ae;have hB0:B≠[]:=by intro h;rw[h]at hB;cases hB
 rw[hne,aA rfl (k1101:E0.fn _=_) rfl];replace t:=fun k=>dC (t 0) (show N+0<=N+m+k by omega)
 rcases hs with ⟨rfl,_⟩|rfl
 ·generalize l.length=n at*;simp[f1101,t,hO,FV.az,FV.aP,rH]
 ·have hO1:∀ k,(B.set o (.row av 11 ((bC l).map (Ar.d e)))).map (ah.az k)=B.set o (.row av 11 ((bC l).map (Ar.d e))):=fun k=>by rw[Q51,hO];rfl
  have tk:(B.set o (.row av 11 ((bC l).map (Ar.d e)))).take B.length=B.set o (.row av 11 ((bC l).map (Ar.d e))):=Qe1 aC;have dp:(B.set o (.row av 11 ((bC l).map (Ar.d e)))).drop B.length=[]:=Xn0 aC;generalize B.set o (.row av 11 ((bC l).map (Ar.d e)))=B1,l.length=n at*;simp[f1101,t,hB0,hO,hO1,tk,dp,FV.az,FV.aP,rH]
end
section
section
variable {α:Type}
theorem gV (x y:Int):(f_ x y=-1/\x<y)\/(f_ x y=0/\x=y)\/(f_ x y=1/\y<x):=by
 unfold f_
 by_cases h1:x<y
 ·exact .inl ⟨if_pos h1,h1⟩
 ·by_cases h2:y<x
  ·exact .inr (.inr ⟨by rw[if_neg h1,if_pos h2],h2⟩)
  ·exact .inr (.inl ⟨by rw[if_neg h1,if_neg h2],ae⟩)
def je (a b:Ar α):Prop:=a.f<b.f\/a.f=b.f/\(a.l<b.l\/a.l=b.l/\a.t<b.t)
def nJ (a b:Ar α):Prop:=a.f=b.f/\a.l=b.l/\a.t=b.t
theorem H_ (a b:Ar α):lQ a b<0↔je a b:=by
 unfold lQ or3 je;rcases gV a.f b.f with ⟨h,h'⟩|⟨h,h'⟩|⟨h,h'⟩<;>rcases gV a.l b.l with ⟨k,k'⟩|⟨k,k'⟩|⟨k,k'⟩<;>rcases gV a.t b.t with ⟨m,m'⟩|⟨m,m'⟩|⟨m,m'⟩<;>simp only[h,k,m]<;>simp<;>omega
theorem BD (a b:Ar α):lQ a b=0↔nJ a b:=by
 unfold lQ or3 nJ;rcases gV a.f b.f with ⟨h,h'⟩|⟨h,h'⟩|⟨h,h'⟩<;>rcases gV a.l b.l with ⟨k,k'⟩|⟨k,k'⟩|⟨k,k'⟩<;>rcases gV a.t b.t with ⟨m,m'⟩|⟨m,m'⟩|⟨m,m'⟩<;>simp only[h,k,m]<;>simp<;>omega
theorem jY (a b:Ar α):je a b\/nJ a b\/je b a:=by unfold je nJ;omega
theorem Ap {a b:Ar α}(h:nJ a b):¬ je a b:=by unfold je nJ at*;omega
theorem zo {a b:Ar α}(h:je a b):¬ je b a:=by unfold je at*;omega
theorem BF {a b:Ar α}(h:je a b):¬ nJ a b:=by unfold je nJ at*;omega
theorem WH {a b:Ar α}(h:je a b):¬ nJ b a:=by unfold je nJ at*;omega
theorem RJ {a b c:Ar α}(h:je a b)(k:je b c):je a c:=by unfold je at*;omega
theorem ahD {a b c:Ar α}(h:¬ je b a)(k:je b c):je a c:=by unfold je at*;omega
theorem acB {a b c:Ar α}(h:je a b)(k:¬ je c b):je a c:=by unfold je at*;omega
theorem ahE {a b c:Ar α}(h:¬ je b a)(k:¬ je c b):¬ je c a:=by unfold je at*;omega
def jg (pl:α->α->α)(a b:Ar α):Ar α:={a with x:=pl a.x b.x}
theorem aaY {pl:α->α->α}{a b c:Ar α}:nJ (jg pl a b) c↔nJ a c:=Iff.rfl
instance (a b:Ar α):Decidable (je a b):=by unfold je;exact inferInstance
instance (a b:Ar α):Decidable (nJ a b):=by unfold nJ;exact inferInstance
def qP (x:Ar α):List (Ar α)->List (Ar α)
 | []=>[x]
 | y::r=>if je x y then x::y::r else y::qP x r
def wU (pl:α->α->α)(a:Ar α):List (Ar α)->List (Ar α)
 | []=>[a]
 | b::r=>if nJ a b then wU pl (jg pl a b) r else a::wU pl b r
def mg (pl:α->α->α):List (Ar α)->List (Ar α)
 | []=>[]
 | a::r=>wU pl a r
def bB (pl:α->α->α)(x:Ar α):List (Ar α)->List (Ar α)
 | []=>[x]
 | y::r=>if je y x then y::bB pl x r else if nJ y x then jg pl y x::r else x::y::r
abbrev A_ (l:List (Ar α)):Prop:=l.Pairwise fun a b=>¬ je b a
theorem KI (pl:α->α->α):∀ (r:List (Ar α)) (a:Ar α),∃ y t,wU pl a r=y::t/\nJ y a
 | [],a=>⟨a,[],rfl,rfl,rfl,rfl⟩
 | b::r,a=>by
  unfold wU;split
  ·obtain⟨y,t,h1,h2⟩:=KI pl r (jg pl a b);exact⟨y,t,h1,h2⟩
  ·exact⟨a,_,rfl,rfl,rfl,rfl⟩
theorem xN {pl:α->α->α}{x:Ar α}(r:List (Ar α)){a:Ar α}(h:je x a):bB pl x (wU pl a r)=x::wU pl a r:=by
 obtain⟨y,t,h1,h2⟩:=KI pl r a;have h3:je x y:=by unfold je nJ at*;omega
 rw[h1,bB,if_neg (zo h3),if_neg (WH h3)]
theorem Ia (pl:α->α->α)(x:Ar α):∀ (r:List (Ar α)) (a:Ar α),A_ (a::r)->¬ je x a->wU pl a (qP x r)=bB pl x (wU pl a r)
 | [],a,_,h=>by
  simp only[qP,wU]
  by_cases he:nJ a x
  ·rw[if_pos he,bB,if_neg (Ap he),if_pos he]
  ·have hlt:je a x:=by
    rcases jY a x with h1|h1|h1
    ·exact h1
    ·exact absurd h1 he
    ·exact absurd h1 h
   rw[if_neg he,bB,if_pos hlt];rfl
 | b::r,a,hs,h=>by
  obtain⟨hab,hs2⟩:=Qo0.1 hs;have akM:=hab b aC;unfold qP
  by_cases hxb:je x b
  ·rw[if_pos hxb];have ahF:je a b:=ahD h hxb;have e1:wU pl a (b::r)=a::wU pl b r:=by rw[wU,if_neg (BF ahF)]
   rw[e1]
   by_cases he:nJ a x
   ·have e2:wU pl (jg pl a x) (b::r)=jg pl a x::wU pl b r:=by rw[wU,if_neg (fun h'=>BF ahF (aaY.1 h'))]
    rw[wU,if_pos he,e2,bB,if_neg (Ap he),if_pos he]
   ·have hlt:je a x:=by
     rcases jY a x with h1|h1|h1
     ·exact h1
     ·exact absurd h1 he
     ·exact absurd h1 h
    have e2:wU pl x (b::r)=x::wU pl b r:=by rw[wU,if_neg (BF hxb)]
    rw[wU,if_neg he,e2,bB,if_pos hlt,xN r hxb]
  ·rw[if_neg hxb]
   by_cases he:nJ a b
   ·have hs3:A_ (jg pl a b::r):=Qo0.2 ⟨fun c hc=>hab c (by simp[hc]),(Qo0.1 hs2).2⟩;rw[wU,if_pos he,Ia pl x r (jg pl a b) hs3 h,wU,if_pos he]
   ·have hlt:je a b:=by
     rcases jY a b with h1|h1|h1
     ·exact h1
     ·exact absurd h1 he
     ·exact absurd h1 akM
    rw[wU,if_neg he,Ia pl x r b hs2 hxb,wU,if_neg he,bB,if_pos (acB hlt hxb)]
theorem aeG (pl:α->α->α)(x:Ar α):∀ (s:List (Ar α)),A_ s->mg pl (qP x s)=bB pl x (mg pl s)
 | [],_=>rfl
 | a::r,hs=>by
  unfold qP
  by_cases h:je x a
  ·rw[if_pos h]
   change wU pl x (a::r)=bB pl x (wU pl a r)
   rw[xN r h,wU,if_neg (BF h)]
  ·rw[if_neg h];exact Ia pl x r a hs h
theorem KJ {x:Ar α}:∀ {s:List (Ar α)} {y:Ar α},y ∈ qP x s->y=x\/y ∈ s
 | [],y,h=>by simp[qP]at h;exact .inl h
 | a::r,y,h=>by
  unfold qP at h;split at h
  ·simpa using h
  ·rcases Qi1.1 h with h|h
   ·exact .inr (by simp[h])
   ·rcases KJ h with h|h
    ·exact .inl h
    ·exact .inr (by simp[h])
theorem DX (x:Ar α):∀ {s:List (Ar α)},A_ s->A_ (qP x s)
 | [],_=>by simp[qP,A_]
 | a::r,hs=>by
  obtain⟨h1,h2⟩:=Qo0.1 hs;unfold qP;split
  ·rename_i h;refine Qo0.2 ⟨fun c hc => ?_,hs⟩;rcases Qi1.1 hc with rfl|hc
   ·exact zo h
   ·exact zo (acB h (h1 c hc))
  ·rename_i h;refine Qo0.2 ⟨fun c hc => ?_,DX x h2⟩;rcases KJ hc with rfl|hc
   ·exact h
   ·exact h1 c hc
theorem DY (x:Ar α)(v:List (Ar α))(hv:∀ y,v.head?=some y->je x y):∀ (u:List (Ar α)),(∀ y ∈ u,¬ je x y)->qP x (u++v)=u++x::v
 | [],_=>by
  cases v with
  | nil=>rfl
  | cons y r=>simp only[Qv2,qP];rw[if_pos (hv y rfl)]
 | a::u,h=>by
  rw[Xb0,qP,if_neg (h a aC),DY x v hv u (fun y hy=>h y (by simp[hy]))];rfl
theorem Aq (x:Ar α)(p:List (Ar α)):∀ j,j<=p.length->(∀ i y,dW x p j<=i->i<j->p[i]?=some y->je x y)/\(∀ y,0<dW x p j->p[dW x p j-1]?=some y->¬ je x y)
 | 0,_=>⟨fun i y h1 h2=>by omega,fun y h=>by simp[dW]at h⟩
 | j+1,hj=>by
  have hy:p[j]?=some p[j]:=Qa1 ae;obtain⟨h1,h2⟩:=Aq x p j ae
  by_cases hlt:lQ x p[j]<0
  ·have hp:dW x p (j+1)=dW x p j:=by simp only[dW,hy,if_pos hlt]
   rw[hp];refine⟨fun i y g1 g2 g3 => ?_,h2⟩;rcases Qg0 i j with h|h
   ·exact h1 i y g1 h g3
   ·obtain rfl:i=j:=ae;rw[hy]at g3;cases g3;exact(H_ _ _).1 hlt
  ·have hp:dW x p (j+1)=j+1:=by simp only[dW,hy,if_neg hlt]
   rw[hp];refine⟨fun i y g1 g2=>by omega,fun y _ g => ?_⟩;simp only[Qw2]at g;rw[hy]at g;cases g;exact fun h=>hlt ((H_ _ _).2 h)
theorem aaZ (x:Ar α){p:List (Ar α)}(hs:A_ p):tH x p=qP x p:=by
 obtain⟨h1,h2⟩:=Aq x p p.length (Qd2 _);have hle:=zn x p p.length;generalize hk:dW x p p.length=k at*;have:=DY x (p.drop k) (fun y hy=>by
  rw[List.head?_drop]at hy;exact h1 k y (Qd2 _) (aT hy) hy) (p.take k) (fun y hy=>by
  obtain⟨i,hi⟩:=Xi1.1 hy;rw[Qp0]at hi;split at hi
  ·rename_i hik;have hlast:p[k-1]?=some p[k-1]:=Qa1 ae;have h3:=h2 p[k-1] ae hlast;rcases Qg0 i (k-1) with h|h
   ·have hii:=(Qy1.1 hi)
    have h4:=List.pairwise_iff_getElem.1 hs i (k-1) hii.1 ae h;rw[hii.2]at h4;exact ahE h4 h3
   ·obtain rfl:i=k-1:=ae;rw[hlast]at hi;cases hi;exact h3
  ·cases hi)
 rw[Xe2]at this;unfold tH;rw[hk,this]
theorem DZ:∀ (l p:List (Ar α)),A_ p->l.foldl (fun p x=>tH x p) p=l.foldl (fun p x=>qP x p) p/\A_ (l.foldl (fun p x=>qP x p) p)
 | [],p,h=>⟨rfl,h⟩
 | x::l,p,h=>by
  rw[Ql1,Ql1,aaZ x h];exact DZ l _ (DX x h)
theorem WI (pl:α->α->α):∀ (l p:List (Ar α)),A_ p->mg pl (l.foldl (fun p x=>qP x p) p)=l.foldl (fun p x=>bB pl x p) (mg pl p)
 | [],p,h=>rfl
 | x::l,p,h=>by
  rw[Ql1,Ql1,WI pl l _ (DX x h),aeG pl x p h]
def dF (pl:α->α->α)(l:List (Ar α)):List (Ar α):=l.foldl (fun p x=>bB pl x p) []
theorem aa0 (pl:α->α->α)(l:List (Ar α)):mg pl (bC l)=dF pl l:=by
 unfold bC dF;rw[(DZ l [] (by simp[A_])).1];exact WI pl l [] (by simp[A_])
def kR (pl:α->α->α)(out:List (Ar α))(x:Ar α):List (Ar α) :=
 match out.getLast? with
 | some y=>if nJ y x then out.dropLast++[jg pl y x] else out++[x]
 | none=>[x]
theorem lT (pl:α->α->α)(p:List (Ar α))(y x:Ar α):kR pl (p++[y]) x=if nJ y x then p++[jg pl y x] else p++[y]++[x]:=by
 unfold kR;simp
theorem tK (pl:α->α->α):∀ (r p:List (Ar α)) (a:Ar α),r.foldl (kR pl) (p++[a])=p++wU pl a r
 | [],p,a=>rfl
 | b::r,p,a=>by
  rw[Ql1,lT,wU];split
  ·exact tK pl r p _
  ·rw[tK pl r (p++[a]) b,Qm2];rfl
theorem aa1 (pl:α->α->α)(s:List (Ar α)):s.foldl (kR pl) []=mg pl s:=by
 cases s with
 | nil=>rfl
 | cons a r =>
  rw[Ql1];exact tK pl r [] a
end
end
section
variable {α:Type}
structure TH (kk:Int)(ps:List Int)(e:α->W)(pl:α->α->α)(z:W)(dS:α->Bool)(G:Nat->α->Prop)(m:Nat):Prop where
 mono:∀ n x,G n x->G (n+1) x
 zero:Ca E1 26 [.d (aU kk ps)] (.d z.d,none)
 pz:∀ x,G 1 x->Ca E1 14 [.d (aU kk ps),.d (e x).d,.d z.d] (.d (e x).d,none)
 tk:∀ x,G 1 x->Ca E1 53 [.d (aU kk ps),.d (e x).d] (.d (e x).d,none)
 p1:∀ n x y,n<m->G n x->G 1 y->Ca E1 14 [.d (aU kk ps),.d (e x).d,.d (e y).d] (.d (e (pl x y)).d,none)
 p2:∀ n x y,n<m->G n x->G 1 y->Ca E1 19 [.d (aU kk ps),.d (e x).d,.d (e y).d] (.d (e (pl x y)).d,none)
 pg:∀ n x y,n<m->G n x->G 1 y->G (n+1) (pl x y)
 z1:∀ n x,n<=m->G n x->Ca E1 1104 [.d (aU kk ps),.d (e x).d] (dB (dS x),none)
 z2:∀ n x,n<=m->G n x->Ca E1 1126 [.d (aU kk ps),.d (e x).d] (dB (dS x),none)
theorem TH.up {kk:Int}{ps:List Int}{e:α->W}{pl:α->α->α}{z:W}{dS:α->Bool}{G:Nat->α->Prop}{m:Nat}(h:TH kk ps e pl z dS G m){x:α}(hx:G 1 x):∀ n,G (n+1) x
 | 0=>hx
 | n+1=>h.mono _ _ (h.up hx n)
def zw (x:Ar α)(aq:List (Ar α)):Nat:=(aq.findIdx? fun y => !decide (je y x)).getD aq.length
theorem aa2 (x:Ar α)(aq:List (Ar α)):zw x aq<=aq.length:=by
 unfold zw;cases h:aq.findIdx? (fun y => !decide (je y x)) with
 | none=>exact Qd2 _
 | some k =>
  rw[Qu2]at h;exact Nat.le_of_lt h.1
theorem Gf (x a:Ar α)(aq:List (Ar α)):zw x (a::aq)=if je a x then zw x aq+1 else 0:=by
 unfold zw;rw[Xv0]
 by_cases h:je a x
 ·simp only[h,decide_true,Xg1,Qh1,if_false,if_true];cases aq.findIdx? (fun y => !decide (je y x))<;>simp
 ·simp[h]
theorem D5 (pl:α->α->α)(x:Ar α):∀ aq:List (Ar α),(∀ y,aq[zw x aq]?=some y->¬ nJ y x)->bB pl x aq=aq.take (zw x aq)++x::aq.drop (zw x aq)
 | [],_=>rfl
 | a::aq,h=>by
  rw[Gf]at h ⊢
  by_cases hl:je a x
  ·rw[if_pos hl]at h ⊢;rw[bB,if_pos hl,D5 pl x aq (fun y hy=>h y (by simpa using hy))];rfl
  ·rw[if_neg hl]at h ⊢;rw[bB,if_neg hl,if_neg (h a rfl)];rfl
theorem Au (pl:α->α->α)(x y:Ar α):∀ aq:List (Ar α),aq[zw x aq]?=some y->nJ y x->bB pl x aq=aq.set (zw x aq) (jg pl y x)
 | [],h,_=>by simp at h
 | a::aq,h,he=>by
  rw[Gf]at h ⊢
  by_cases hl:je a x
  ·rw[if_pos hl]at h ⊢;rw[bB,if_pos hl,Au pl x y aq (by simpa using h) he];rfl
  ·rw[if_neg hl]at h ⊢;simp at h;subst h;rw[bB,if_neg hl,if_pos he];rfl
theorem wh (pl:α->α->α)(x:Ar α):∀ aq:List (Ar α),(bB pl x aq).length<=aq.length+1
 | []=>by simp[bB]
 | a::aq=>by
  unfold bB;have:=wh pl x aq;split
  ·simp;omega
  ·split<;>simp
theorem nK (pl:α->α->α)(x:Ar α)(P Q:Ar α->Prop)(hx:Q x)(hPQ:∀ y,P y->Q y)(hpl:∀ y,P y->Q (jg pl y x)):∀ aq:List (Ar α),(∀ y ∈ aq,P y)->∀ y ∈ bB pl x aq,Q y
 | [],_,y,hy=>by simp[bB]at hy;subst hy;exact hx
 | a::aq,h,y,hy=>by
  unfold bB at hy;split at hy
  ·rcases Qi1.1 hy with rfl|hy
   ·exact hPQ _ (h _ aC)
   ·exact nK pl x P Q hx hPQ hpl aq (fun y hy=>h y (by simp[hy])) y hy
  ·split at hy
   ·rcases Qi1.1 hy with rfl|hy
    ·exact hpl _ (h _ aC)
    ·exact hPQ _ (h _ (by simp[hy]))
   ·rcases Qi1.1 hy with rfl|hy
    ·exact hx
    ·exact hPQ _ (h _ hy)
theorem NC (pl:α->α->α)(x:Ar α)(P Q:Ar α->Prop)(hx:Q x)(hPQ:∀ y,P y->Q y)(hpl:∀ y,P y->Q (jg pl y x))(aq:List (Ar α))(h:∀ y ∈ aq,P y):∀ y ∈ kR pl aq x,Q y:=by
 intro y hy;rcases Q92 aq with rfl|⟨q,a,rfl⟩
 ·simp[kR]at hy;subst hy;exact hx
 ·rw[Q50]at*;rw[lT]at hy;split at hy
  ·rcases Qw0.1 hy with hy|hy
   ·exact hPQ _ (h _ (by simp[hy]))
   ·simp at hy;subst hy;exact hpl _ (h _ aC)
  ·rcases Qw0.1 hy with hy|hy
   ·exact hPQ _ (h _ hy)
   ·simp at hy;subst hy;exact hx
theorem ND (pl:α->α->α)(x:Ar α)(aq:List (Ar α)):(kR pl aq x).length<=aq.length+1:=by
 rcases Q92 aq with rfl|⟨q,a,rfl⟩
 ·simp[kR]
 ·rw[Q50,lT];split<;>simp
theorem WJ {x:Ar α}{p:List (Ar α)}{y:Ar α}(h:y ∈ tH x p):y=x\/y ∈ p:=by
 unfold tH at h;rcases Qw0.1 h with h|h
 ·exact .inr (Qn1 h)
 ·rcases Qi1.1 h with h|h
  ·exact .inl h
  ·exact .inr (Q32 h)
theorem Av:∀ (l p:List (Ar α)) {y:Ar α},y ∈ l.foldl (fun p x=>tH x p) p->y ∈ p\/y ∈ l
 | [],p,y,h=>.inl h
 | x::l,p,y,h=>by
  rw[Ql1]at h;rcases Av l _ h with h|h
  ·rcases WJ h with h|h
   ·exact .inr (by simp[h])
   ·exact .inl h
  ·exact .inr (by simp[h])
theorem KL {l:List (Ar α)}{y:Ar α}(h:y ∈ bC l):y ∈ l:=by
 rcases Av l [] h with h|h
 ·simp at h
 ·exact h
end
end Fi.S
noncomputable section
namespace Fi.S
open Go Fi
set_option maxHeartbeats 8000000
set_option maxRecDepth 10000
theorem RL {k:Int}(hk:single k=true){S T M M':Nat}(hS:1<=S)(hT:1<=T){x y:Sv}(hx:x.of k S M)(hy:y.of k T M'):(dn k x y).of k (S+T+1) (M+M'):=by
 rcases aN hk with rfl|rfl|rfl|rfl|rfl
 ·obtain⟨a,rfl,h1⟩:=zi hx;obtain⟨b,rfl,h2⟩:=zi hy;refine⟨.inl rfl,?_⟩;have:=qw a b;show qz (a+b)<=_;omega
 ·obtain⟨a,n,rfl,h1⟩:=tC hx;obtain⟨b,m,rfl,h2⟩:=tC hy;show Sv.of 2 _ _ (if jd b m a n then .c b m else .c a n);split
  ·exact hy
  ·exact hx
 ·obtain⟨a,rfl,h1⟩:=tF hx;obtain⟨b,rfl,h2⟩:=tF hy;show Sv.of 3 _ _ (if a<b then .q b else .q a);split
  ·exact Sv.of.mono hy ae ae
  ·exact Sv.of.mono hx ae ae
 ·obtain⟨a,rfl,h1⟩:=yJ hx;obtain⟨b,rfl,h2⟩:=yJ hy;exact⟨rfl,aaJ a b⟩
 ·obtain⟨a,rfl,h1,h2⟩:=zk hx;obtain⟨b,rfl,h3,h4⟩:=zk hy;exact⟨rfl,gI hS hT h1 h3,Qc1 (Af a b) (Nat.add_le_add h2 h4)⟩
theorem NF {S T M M':Nat}(hS:1<=S)(hT:1<=T){ps:List Int}(hs:∀ k ∈ ps,single k=true){xs ys:List Sv}(hx:ik S M ps xs)(hy:ik T M' ps ys):ik (S+T+1) (M+M') ps (bT ps xs ys):=by
 refine⟨by simp[bT,hx.1,hy.1],fun i k z hk hz => ?_⟩;obtain⟨k',x,y,h1,h2,h3,rfl⟩:=iq hz;rw[hk]at h1;cases h1;exact RL (hs k (Qa2 hk)) hS hT (hx.2 i k x hk h2) (hy.2 i k y hk h3)
def bG (kk:Int)(ps:List Int):List Sv:=(dG kk ps).map dO
def Gg (kk:Int)(ps:List Int):List Sv:=(dG kk ps).map nH
def zx (kk:Int)(ps:List Int)(xs:List Sv):Bool:=(bN kk xs).eq (bN kk (bG kk ps))
end Fi.S
