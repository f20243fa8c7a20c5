import Derived.Test.YtkekcmgkpdkieaaGreatDoorCP
set_option linter.unusedVariables false
set_option linter.unusedSimpArgs false
noncomputable section
namespace Fi
open Go
section
section
variable {E:Env} {α β:Type} {b:aG}
theorem Ex.Ii (l:List α)(p:α->Bool)(S:Nat->St)(R F:Out × St)(hR:R.1≠.norm)(hF:F.1≠.norm)
  (round:∀ (j:Nat) (a:α),l[j]?=some a->Ex E b (S j) (if p a then(.norm,S (j+1)) else F)) (last:Ex E b (S l.length) R):Ex E (.loop b) (S 0) (if l.all p then R else F):=by
 have key:∀ (d j:Nat),j+d=l.length->Ex E (.loop b) (S j) (if (l.drop j).all p then R else F):=by
  intro d
  induction d with
  | zero =>
   intro j hj;obtain rfl:j=l.length:=ae;rw[Qv2];exact Ex.leave last hR
  | succ d ih =>
   intro j hj;have hlt:j<l.length:=ae;have hr:=round j _ (Qa1 hlt);rw[Qk1 hlt,List.all_cons];cases hp:p l[j] with
   | false =>
    rw[hp]at hr;exact Ex.leave hr hF
   | true =>
    rw[hp]at hr;rw[Qp1];exact Ex.next hr (ih (j+1) ae)
 exact key l.length 0 ae
theorem Ex.xZ (l:List α)(p:α->Bool)(S:Nat->St)(R:Out × St)(F:Nat->Out × St)(hR:R.1≠.norm)(hF:∀ j,(F j).1≠.norm)
  (round:∀ (j:Nat) (a:α),l[j]?=some a->Ex E b (S j) (if p a then F j else(.norm,S (j+1)))) (last:Ex E b (S l.length) R):Ex E (.loop b) (S 0) (match l.findIdx? p with
   | some j=>F j
   | none=>R):=by
 have key:∀ (d j:Nat),j+d=l.length->(∀ i a,i<j->l[i]?=some a->p a=false)->Ex E (.loop b) (S j) (match l.findIdx? p with
   | some j=>F j
   | none=>R):=by
  intro d
  induction d with
  | zero =>
   intro j hj hno;obtain rfl:j=l.length:=ae;have:l.findIdx? p=none:=by
    rw[Xi1];intro x hx;obtain⟨i,hi⟩:=Xc1.1 hx;exact hno i x (aU hi) hi
   rw[this];exact Ex.leave last hR
  | succ d ih =>
   intro j hj hno;have hlt:j<l.length:=ae;have hr:=round j _ (Qa1 hlt);cases hp:p l[j] with
   | true =>
    rw[hp]at hr;have:l.findIdx? p=some j:=by
     rw[Qt0];exact⟨hlt,hp,fun i hi=>by rw[hno i _ hi (Qa1 ae)];simp⟩
    rw[this];exact Ex.leave hr (hF j)
   | false =>
    rw[hp]at hr;refine Ex.next hr (ih (j+1) ae (fun i a hi ha => ?_))
    rcases Qg0 i j with h|h
    ·exact hno i a h ha
    ·obtain rfl:i=j:=ae;rw[Qa1 hlt]at ha;cases ha;exact hp
 exact key l.length 0 ae (fun i a hi=>by omega)
theorem Ex.fold (l:List α)(f:β->α->β)(z:β)(I:Nat->β->St->Prop)(Q:β->Out × St->Prop)
  (round:∀ (j:Nat) (a:α) (st:St),l[j]?=some a->I j ((l.take j).foldl f z) st->∃ st',Ex E b st (.norm,st')/\I (j+1) (f ((l.take j).foldl f z) a) st')
  (last:∀ st,I l.length (l.foldl f z) st->∃ r,Ex E b st r/\r.1≠.norm/\Q (l.foldl f z) r) {st:St} (h0:I 0 z st):∃ r,Ex E (.loop b) st r/\Q (l.foldl f z) r:=by
 have key:∀ (d j:Nat) (st:St),j+d=l.length->I j ((l.take j).foldl f z) st->∃ r,Ex E (.loop b) st r/\Q (l.foldl f z) r:=by
  intro d
  induction d with
  | zero =>
   intro j st hj hI;obtain rfl:j=l.length:=ae;rw[Qj1]at hI;obtain⟨r,h1,h2,h3⟩:=last st hI;exact⟨r,Ex.leave h1 h2,h3⟩
  | succ d ih =>
   intro j st hj hI;have hlt:j<l.length:=ae;obtain⟨st',h1,h2⟩:=round j _ st (Qa1 hlt) hI;have h3:(l.take (j+1)).foldl f z=f ((l.take j).foldl f z) l[j]:=by rw[Qi1 hlt,Xl2];rfl
   rw[<-h3]at h2;obtain⟨r,h4,h5⟩:=ih (j+1) st' ae h2;exact⟨r,h1.next h4,h5⟩
 exact key l.length 0 st ae (by simpa using h0)
end
end
end Fi
namespace Fi.S
open Go Fi
set_option maxHeartbeats 8000000
section
structure Ar (α:Type) where
 f:Int
 l:Int
 t:Int
 x:α
def pQ (f l t:Int)(s:Bool)(l1 l2:List D)(c:Int)(b:Bool)(u:Int)(p ps:List D):D:=.a [vI f,vI l,vI t,vB s,.s 1 l1,.s 1 l2,vI c,vB b,.v (.int .u64 u),.s 6 p,.s 8 ps]
variable {α:Type}
def Ar.d (e:α->W)(a:Ar α):D:=.a (vI a.f::vI a.l::vI a.t::(e a.x).d.cells)
theorem Ar.fH (e:α->W)(a:Ar α):∃ s l1 l2 c b u p ps,(e a.x).d=wD s l1 l2 c b u p ps/\a.d e=pQ a.f a.l a.t s l1 l2 c b u p ps:=by
 obtain⟨s,l1,l2,c,b,u,p,ps,h⟩:=(e a.x).aP;exact⟨s,l1,l2,c,b,u,p,ps,h,by unfold Ar.d pQ;rw[h];rfl⟩
def or3 (x y z:Int):Int:=if x=0 then if y=0 then z else y else x
def jL (a b:Ar α):Int:=or3 (fP a.f b.f) (fP a.l b.l) (fP a.t b.t)
theorem ae4 (n:Nat)(x y z:Int):CL E0 (n+200) 1109 [.d (.s 1 [vI x,vI y,vI z])] []=some (dI (or3 x y z),none):=by
 have w1:ak .i64 1=1:=wrap_i64 ae;have w2:ak .i64 2=2:=wrap_i64 ae;have w3:ak .i64 3=3:=wrap_i64 ae;rw[aB rfl (aO 1109 f1109:E0.fn _=_) rfl];unfold or3
 by_cases h1:x=0
 ·subst h1
  by_cases h2:y=0
  ·subst h2
   by_cases h3:z=0
   ·subst h3;simp[f1109,aF,w1,w2,w3]
   ·have e3:(z != 0)=true:=by simpa using h3
    simp[f1109,aF,w1,w2,w3,e3]
  ·have e2:(y != 0)=true:=by simpa using h2
   simp[f1109,aF,w1,w2,w3,e2,h2]
 ·have e1:(x != 0)=true:=by simpa using h1
  simp[f1109,aF,w1,w2,w3,e1,h1]
theorem DY (e:α->W)(n:Nat)(a b:Ar α):CL E0 (n+400) 1070 [.d (a.d e),.d (b.d e)] []=some (dI (jL a b),none):=by
 obtain⟨s,l1,l2,c,i,u,p,ps,_,ea⟩:=a.fH e;obtain⟨s',l1',l2',c',i',u',p',ps',_,eb⟩:=b.fH e;rw[ea,eb];have c1:=fun m=>o9 m a.f b.f
 have c2:=fun m=>o9 m a.l b.l
 have c3:=fun m=>o9 m a.t b.t
 have t:=fun m=>ae4 m (fP a.f b.f) (fP a.l b.l) (fP a.t b.t)
 unfold jL;generalize fP a.f b.f=x,fP a.l b.l=y,fP a.t b.t=z at*;generalize or3 x y z=r at*;rw[aB rfl (aO 1070 f1070:E0.fn _=_) rfl];unfold pQ;simp[f1070,c1,c2,c3,t]
end
section
variable {α:Type} {e:α->W}
def inM:aG:=f1208.body.r.bl.lp.r.l.bl.r.bl.lp
def N_ (o az n:Nat)(B:List ai)(i j:Nat)(t:FV)(dt:Bool):St :=
 {vars:=[.ls (.old o) az 11 0 n,dI 0,dI n,.d (.fn 1070),dI i,dI j,.u,t],base:=B,loc:=[],aR:=dt}
theorem aa2 (o az n:Nat)(B:List ai)(i k:Nat)(dt:Bool)(es:List D)(x y:Ar α)(hB:B[o]?=some (.row az 11 es))(hn:es.length=n)(hn2:n<=1000000)(hx:es[k+1]?=some (x.d e))(hy:es[k]?=some (y.d e))(hlt:jL x y<0) :
  Ex E0 inM (N_ o az n B i (k+1) .u dt) (.norm,N_ o az n (B.set o (.row az 11 ((es.set (k+1) (y.d e)).set k (x.d e)))) i k .u true):=by
 have t:=fun m=>DY e m x y
 have hol:o<B.length:=(aU hB)
 have hkl:k+1<es.length:=(aU hx)
 have hkn:(k:Int)+1<(n:Int):=ae;have hkn2:(k:Int)<(n:Int):=ae;have hk0:(0:Int)<=(k:Int):=ae;have hk1:(0:Int)<=(k:Int)+1:=ae;have hgt:(0:Int)<(k:Int)+1:=ae;have tn:((k:Int)+1).toNat=k+1:=ae;have hw:ak .i64 (k:Int)=(k:Int):=wrap_i64 ae;have hk2:((k+1:Nat):Int)=(k:Int)+1:=ae;have s1:∀ r,(es.set (k+1) r)[k]?=some (y.d e):=fun r=>by rw[Qb2 ae];exact hy
 generalize jL x y=od at*;obtain⟨s,l1,l2,c,b,u,p,ps,_,ex⟩:=x.fH e;obtain⟨s',l1',l2',c',b',u',p',ps',_,ey⟩:=y.fH e;simp only[ex,ey]at t hx hy s1 ⊢;clear ex ey;unfold pQ at*;generalize x.f=xf,x.l=xl,x.t=xt,y.f=yf,y.l=yl,y.t=yt at*;have qE:k<es.length:=ae;refine Ex.of (n:=500) ?_;unfold N_;rw[hk2];have i1:=idx hx;have i2:=idx hy;have i3:=idx hB;have i4:∀ r (h:k<(es.set (k+1) r).length),(es.set (k+1) r)[k]=_:=fun r h=>idx (s1 r) h
 simp[inM,f1208,t,hol,hkl,hkn,hkn2,hk0,hk1,hgt,tn,hw,hB,hx,hy,s1,i1,i2,i3,i4,hlt,qE,hn]
theorem aa3 (o az n:Nat)(B:List ai)(i k:Nat)(dt:Bool)(es:List D)(x y:Ar α)(hB:B[o]?=some (.row az 11 es))(hn:es.length=n)(hn2:n<=1000000)(hx:es[k+1]?=some (x.d e))(hy:es[k]?=some (y.d e))(hlt:¬ jL x y<0) :
  Ex E0 inM (N_ o az n B i (k+1) .u dt) (.exit 2,N_ o az n B i (k+1) (dB false) dt):=by
 have t:=fun m=>DY e m x y
 have hol:o<B.length:=(aU hB)
 have hkl:k+1<es.length:=(aU hx)
 have hkn:(k:Int)+1<(n:Int):=ae;have hkn2:(k:Int)<(n:Int):=ae;have hk0:(0:Int)<=(k:Int):=ae;have hk1:(0:Int)<=(k:Int)+1:=ae;have hgt:(0:Int)<(k:Int)+1:=ae;have tn:((k:Int)+1).toNat=k+1:=ae;have hw:ak .i64 (k:Int)=(k:Int):=wrap_i64 ae;have hk2:((k+1:Nat):Int)=(k:Int)+1:=ae;generalize jL x y=od at*;have hge:0<=od:=ae;obtain⟨s,l1,l2,c,b,u,p,ps,_,ex⟩:=x.fH e;obtain⟨s',l1',l2',c',b',u',p',ps',_,ey⟩:=y.fH e;simp only[ex,ey]at t hx hy ⊢;clear ex ey;unfold pQ at*;generalize x.f=xf,x.l=xl,x.t=xt,y.f=yf,y.l=yl,y.t=yt at*;have qE:k<es.length:=ae;refine Ex.of (n:=500) ?_;unfold N_;rw[hk2];have i1:=idx hx;have i2:=idx hy;have i3:=idx hB;simp[inM,f1208,t,hol,hkl,hkn,hkn2,hk0,hk1,hgt,tn,hw,hB,hx,hy,i1,i2,i3,hlt,qE,hn,hge]
theorem aa4 (o az n:Nat)(B:List ai)(i:Nat)(dt:Bool):Ex E0 inM (N_ o az n B i 0 .u dt) (.exit 2,N_ o az n B i 0 (dB false) dt):=by
 refine Ex.of (n:=100) ?_;unfold N_;simp[inM,f1208]
end
section
variable {α:Type} {e:α->W}
def dR (x:Ar α)(p:List (Ar α)):Nat->Nat
 | 0=>0
 | j+1=>match p[j]? with
  | some y=>if jL x y<0 then dR x p j else j+1
  | none=>j+1
theorem zJ (x:Ar α)(p:List (Ar α)):∀ j,dR x p j<=j
 | 0=>Qe1 _
 | j+1=>by
  unfold dR;split
  ·split
   ·exact Nat.le_succ_of_le (zJ x p j)
   ·exact Qe1 _
  ·exact Qe1 _
def tL (x:Ar α)(p:List (Ar α)):List (Ar α):=p.take (dR x p p.length)++x::p.drop (dR x p p.length)
def bE (l:List (Ar α)):List (Ar α):=l.foldl (fun p x=>tL x p) []
theorem WU (x:Ar α)(p:List (Ar α)):(tL x p).length=p.length+1:=by
 unfold tL;have:=zJ x p p.length;simp only[Qb0,Qk0,Qf1,Xe1];omega
theorem AO:∀ (l p:List (Ar α)),(l.foldl (fun p x=>tL x p) p).length=p.length+l.length
 | [],p=>rfl
 | x::l,p=>by rw[Qk2,AO l,WU];simp;omega
theorem lS (l:List (Ar α)):(bE l).length=l.length:=by
 unfold bE;rw[AO];simp
def Mq (e:α->W)(p q:List (Ar α))(x:Ar α)(j:Nat):List D:=((p.take j++x::p.drop j)++q).map (Ar.d e)
theorem aa5 (p q:List (Ar α))(x:Ar α)(j:Nat)(h:j<=p.length):(Mq e p q x j).length=p.length+1+q.length:=by
 unfold Mq;simp only[Ql1,Qb0,Qk0,Qf1,Xe1];omega
theorem acV {p q:List (Ar α)}{x:Ar α}{j:Nat}(h:j<=p.length):(Mq e p q x j)[j]?=some (x.d e):=by
 unfold Mq;rw[Qc0,Qm1,Qb1 (by simp[Xt2 h])];simp[Xt2 h]
theorem acW {p q:List (Ar α)}{x y:Ar α}{j:Nat}(h:p[j]?=some y):(Mq e p q x (j+1))[j]?=some (y.d e):=by
 have hj:=(aU h)
 unfold Mq;rw[Qc0,Qm1,Qa0 (by simp;omega),Qp2,if_pos ae,h];rfl
theorem WV {p q:List (Ar α)}{x y:Ar α}{j:Nat}(h:p[j]?=some y):((Mq e p q x (j+1)).set (j+1) (y.d e)).set j (x.d e)=Mq e p q x j:=by
 obtain⟨hj,hy⟩:=Qq1.1 h;subst hy;unfold Mq;rw[Qi1 hj,Qk1 hj];simp only[Qq2,Qd2,Qm1,Xe0,Qs2,Qc2];have hl:(List.map (Ar.d e) (List.take j p)).length=j:=by simp;omega
 rw[Qx1 _ _ ae,Qx1 _ _ ae,hl];simp
theorem PX (o az n i:Nat)(B:List ai)(ho:o<B.length)(p q:List (Ar α))(x:Ar α)(hn:p.length+1+q.length=n)(hn2:n<=1000000):∀ (j:Nat),j<=p.length->∀ dt,∃ oZ,
  Ex E0 (.loop inM) (N_ o az n (B.set o (.row az 11 (Mq e p q x j))) i j .u dt) (.exit 2,N_ o az n (B.set o (.row az 11 (Mq e p q x (dR x p j)))) i (dR x p j) (dB false) oZ)/\(oZ=false->dt=false/\dR x p j=j)
 | 0,_,dt=>⟨dt,Ex.leave (aa4 o az n _ i dt) aC,fun h=>⟨h,rfl⟩⟩
 | j+1,hj,dt=>by
  have hy:p[j]?=some p[j]:=Qa1 ae;have hl:=aa5 (e:=e) p q x (j+1) hj;have hB:(B.set o (.row az 11 (Mq e p q x (j+1))))[o]?=some (.row az 11 (Mq e p q x (j+1))):=Qd0 ho
  by_cases hlt:jL x p[j]<0
  ·have hp:dR x p (j+1)=dR x p j:=by simp only[dR,hy,if_pos hlt]
   rw[hp];have hr:=aa2 o az n _ i j dt _ x p[j] hB ae hn2 (acV hj) (acW hy) hlt;rw[WV hy,List.set_set]at hr;obtain⟨oZ,h1,h2⟩:=PX o az n i B ho p q x hn hn2 j ae true;exact⟨oZ,hr.next h1,fun h=>absurd (h2 h).1 aC⟩
  ·have hp:dR x p (j+1)=j+1:=by simp only[dR,hy,if_neg hlt]
   rw[hp];exact⟨dt,Ex.leave (aa3 o az n _ i j dt _ x p[j] hB ae hn2 (acV hj) (acW hy) hlt) aC,fun h=>⟨h,rfl⟩⟩
def tN (o az n:Nat)(B:List ai)(i:Nat)(t:FV)(dt:Bool):St :=
 {vars:=[.ls (.old o) az 11 0 n,dI 0,dI n,.d (.fn 1070),dI i,.u,t,.u],base:=B,loc:=[],aR:=dt}
def Oa:aG:=f1208.body.r.bl.lp
theorem RZ (o az n i:Nat)(B:List ai)(ho:o<B.length)(p q:List (Ar α))(x:Ar α)(hp:p.length=i)(hn:p.length+1+q.length=n)(hn2:n<=1000000)(dt:Bool):∃ oZ,
  Ex E0 Oa (tN o az n (B.set o (.row az 11 ((p++x::q).map (Ar.d e)))) i .u dt) (.norm,tN o az n (B.set o (.row az 11 ((tL x p++q).map (Ar.d e)))) (i+1) .u oZ)/\(oZ=false->dt=false/\tL x p=p++[x]):=by
 obtain⟨oZ,h1,h2⟩:=PX o az n i B ho p q x hn hn2 p.length (Qe1 _) dt;have e0:Mq e p q x p.length=(p++x::q).map (Ar.d e):=by unfold Mq;simp
 have e1:Mq e p q x (dR x p p.length)=(tL x p++q).map (Ar.d e):=rfl;rw[e0,e1]at h1;refine⟨oZ,?_,fun h=>⟨(h2 h).1,by unfold tL;rw[(h2 h).2];simp⟩⟩;have hin:(i:Int)<(n:Int):=ae;have hw:ak .i64 ((i:Int)+1)=(i:Int)+1:=wrap_i64 ae;have hi1:((i+1:Nat):Int)=(i:Int)+1:=ae;generalize (p++x::q).map (Ar.d e)=e2 at*;generalize (tL x p++q).map (Ar.d e)=e3,dR x p p.length=j2 at*;rw[hp]at h1;refine Ex.seq (st1:=tN o az n (B.set o (.row az 11 e2)) i (dB true) dt) (Ex.of (n:=60) (by unfold tN;simp[Oa,f1208,hin])) ?_;refine Ex.seq (st1:=N_ o az n (B.set o (.row az 11 e3)) i j2 (dB false) oZ) (Ex.fE (Ex.seq (st1:=N_ o az n (B.set o (.row az 11 e2)) i i .u dt) (Ex.of (n:=60) (by unfold tN N_;simp[Oa,f1208])) (Ex.block h1))) ?_;apply e6;unfold tN N_;rw[hi1];simp[Oa,f1208,hw]
theorem KJ (o az n i:Nat)(B:List ai)(hi:n<=i)(dt:Bool):Ex E0 Oa (tN o az n B i .u dt) (.exit 0,tN o az n B i (dB false) dt):=by
 apply e6;have hin:¬ (i:Int)<(n:Int):=ae;have hin2:(n:Int)<=(i:Int):=ae;unfold tN;simp[Oa,f1208,hin,hin2]
theorem KL (o az:Nat)(B:List ai)(ho:o<B.length)(l:List (Ar α))(hn2:l.length<=1000000):∀ (d i:Nat),i+d=l.length->∀ dt,∃ oZ,
  Ex E0 (.loop Oa) (tN o az l.length (B.set o (.row az 11 ((bE (l.take i)++l.drop i).map (Ar.d e)))) i .u dt) (.exit 0,tN o az l.length (B.set o (.row az 11 ((bE l).map (Ar.d e)))) l.length (dB false) oZ) /\
   (oZ=false->dt=false/\bE l=bE (l.take i)++l.drop i)
 | 0,i,hi,dt=>by
  obtain rfl:i=l.length:=ae;rw[Qj1,Qv2,Q11];exact⟨dt,Ex.leave (KJ o az _ _ _ (Qe1 _) dt) aC,fun h=>⟨h,rfl⟩⟩
 | d+1,i,hi,dt=>by
  have hlt:i<l.length:=ae;have e1:bE (l.take (i+1))=tL l[i] (bE (l.take i)):=by
   unfold bE;rw[Qi1 hlt,Xl2];rfl
  obtain⟨dt1,h1,h2⟩:=RZ o az l.length i B ho (bE (l.take i)) (l.drop (i+1)) l[i] (by rw[lS];simp;omega) (by rw[lS];simp;omega) hn2 dt;rw[<-Qk1 hlt,<-e1]at h1;obtain⟨dt2,h3,h4⟩:=KL o az B ho l hn2 d (i+1) ae dt1;refine⟨dt2,h1.next h3,fun h => ?_⟩;obtain⟨g1,g2⟩:=h4 h;obtain⟨g3,g4⟩:=h2 g1;refine⟨g3,?_⟩;rw[g2,e1,g4,Qm1,List.singleton_append,<-Qk1 hlt]
def sorted (e:α->W)(o az:Nat)(B:List ai)(l:List (Ar α))(r:FV × Option (List ai)):Prop :=
 (r=(.d (.t []),none)/\bE l=l)\/r=(.d (.t []),some (B.set o (.row az 11 ((bE l).map (Ar.d e)))))
theorem ae8 (o az:Nat)(B:List ai)(l:List (Ar α))(hB:B[o]?=some (.row az 11 (l.map (Ar.d e))))(hO:∀ n,B.map (ai.aA n)=B)(hn:l.length<=1000000) :
  ∃ r N,(∀ m,CL E0 (N+m) 1208 [.ls (.old o) az 11 0 l.length,dI 0,dI l.length,.d (.fn 1070)] B=some r)/\sorted e o az B l r:=by
 have ho:o<B.length:=(aU hB)
 have hself:B.set o (.row az 11 (l.map (Ar.d e)))=B:=by
  obtain⟨h,e⟩:=Qq1.1 hB;rw[<-e,X30]
 have hset:∀ n r,(∀ k,ai.aA k r=r)->(B.set o r).map (ai.aA n)=B.set o r:=fun n r hr=>by rw[Q52,hO,hr]
 obtain⟨dt,st,hrun,hdt,hst⟩:∃ (dt:Bool) (i:Nat),Ex E0 f1208.body (tN o az l.length B 0 .u false |> fun s=>{s with vars:=(.ls (.old o) az 11 0 l.length::dI 0::dI l.length::.d (.fn 1070)::rJ)}) (.norm,tN o az l.length (B.set o (.row az 11 ((bE l).map (Ar.d e)))) i (dB false) dt)/\(dt=false->bE l=l)/\True:=by
  have h0:Ex E0 f1208.body.l (tN o az l.length B 0 .u false |> fun s=>{s with vars:=(.ls (.old o) az 11 0 l.length::dI 0::dI l.length::.d (.fn 1070)::rJ)}) (.norm,tN o az l.length B 1 .u false):=by
   apply e6;have w1:ak .i64 1=1:=wrap_i64 ae;unfold tN;simp[f1208,w1]
  cases l with
  | nil =>
   refine⟨false,1,?_,fun _=>rfl,trivial⟩;have h1:=KJ o az 0 1 B ae false;simp only[Qc2]at hself;have e1:(bE ([]:List (Ar α))).map (Ar.d e)=[]:=rfl;rw[e1,hself];exact Ex.seq h0 (Ex.block (Ex.leave h1 aC))
  | cons a l =>
   obtain⟨dt,h1,h2⟩:=KL o az B ho (a::l) hn l.length 1 (by simp;omega) false;have e1:bE ((a::l).take 1)++(a::l).drop 1=a::l:=by simp[bE,tL,dR]
   rw[e1,hself]at h1;rw[e1]at h2;exact⟨dt,_,Ex.seq h0 (Ex.block h1),fun h=>(h2 h).2,trivial⟩
 obtain⟨N,hN⟩:=qN (E:=E0) (g:=1208) (F:=f1208) (args:=[.ls (.old o) az 11 0 l.length,dI 0,dI l.length,.d (.fn 1070)]) (B:=B) (o:=.norm)
  (r:=if dt then(.d (.t []),some (B.set o (.row az 11 ((bE l).map (Ar.d e))))) else(.d (.t []),none)) rfl (k1208:E0.fn _=_) rfl hrun aC (by
   have hm:=hset (B.set o (.row az 11 ((bE l).map (Ar.d e)))).length (.row az 11 ((bE l).map (Ar.d e))) (fun _=>rfl);cases dt<;>simp[finish,kG,show f1208.res=[] from rfl,show f1208.ref=true from rfl,dX,oneOf,o8,kD,jI,tN,FV.aA,hset,ai.aA,hO])
 refine⟨_,N,hN,?_⟩;cases dt with
 | true=>exact .inr rfl
 | false=>exact .inl ⟨rfl,hdt rfl⟩
end
section
variable {α:Type} {e:α->W}
theorem Ij (o az:Nat)(B:List ai)(l:List (Ar α))(hB:B[o]?=some (.row az 11 (l.map (Ar.d e))))(hO:∀ n,B.map (ai.aA n)=B)(hn:l.length<20) :
  ∃ r N,(∀ m,CL E0 (N+m) 1138 [.ls (.old o) az 11 0 l.length,dI l.length,.d (.fn 1070)] B=some r)/\sorted e o az B l r:=by
 obtain⟨r,N,t,hs⟩:=ae8 o az B l hB hO ae;refine⟨r,N+200,fun m => ?_,hs⟩;have h1:¬ (20:Int)<=(l.length:Int):=ae;have h2:¬ (20:Int)<(l.length:Int):=ae;have h1':(l.length:Int)<20:=ae;have h2':(l.length:Int)<=20:=ae;have hne:N+200+m=(N+m)+200:=ae;have hB0:B≠[]:=by intro h;rw[h]at hB;cases hB
 rw[hne,aB rfl (k1138:E0.fn _=_) rfl];replace t:=fun k=>dL (t 0) (show N+0<=N+m+k by omega)
 rcases hs with ⟨rfl,_⟩|rfl
 ·generalize l.length=n at*;simp[f1138,aF,t,hO,h1,h2,h1',h2',FV.aA,FV.aT,o8]
 ·have hO1:∀ k,(B.set o (.row az 11 ((bE l).map (Ar.d e)))).map (ai.aA k)=B.set o (.row az 11 ((bE l).map (Ar.d e))):=fun k=>by rw[Q52,hO];rfl
  have tk:(B.set o (.row az 11 ((bE l).map (Ar.d e)))).take B.length=B.set o (.row az 11 ((bE l).map (Ar.d e))):=Qe0 aC;have dp:(B.set o (.row az 11 ((bE l).map (Ar.d e)))).drop B.length=[]:=Xz2 aC;generalize B.set o (.row az 11 ((bE l).map (Ar.d e)))=B1,l.length=n at*;simp[f1138,aF,t,hB0,hO,hO1,tk,dp,h1,h2,h1',h2',FV.aA,FV.aT,o8]
theorem R3 (o az:Nat)(B:List ai)(l:List (Ar α))(hB:B[o]?=some (.row az 11 (l.map (Ar.d e))))(hO:∀ n,B.map (ai.aA n)=B)(hn:l.length<20) :
  ∃ r N,(∀ m,CL E0 (N+m) 1101 [.ls (.old o) az 11 0 l.length,.d (.fn 1070)] B=some r)/\sorted e o az B l r:=by
 obtain⟨r,N,t,hs⟩:=Ij o az B l hB hO hn;refine⟨r,N+200,fun m => ?_,hs⟩;have hne:N+200+m=(N+m)+200:=ae;have hB0:B≠[]:=by intro h;rw[h]at hB;cases hB
 rw[hne,aB rfl (k1101:E0.fn _=_) rfl];replace t:=fun k=>dL (t 0) (show N+0<=N+m+k by omega)
 rcases hs with ⟨rfl,_⟩|rfl
 ·generalize l.length=n at*;simp[f1101,t,hO,FV.aA,FV.aT,o8]
 ·have hO1:∀ k,(B.set o (.row az 11 ((bE l).map (Ar.d e)))).map (ai.aA k)=B.set o (.row az 11 ((bE l).map (Ar.d e))):=fun k=>by rw[Q52,hO];rfl
  have tk:(B.set o (.row az 11 ((bE l).map (Ar.d e)))).take B.length=B.set o (.row az 11 ((bE l).map (Ar.d e))):=Qe0 aC;have dp:(B.set o (.row az 11 ((bE l).map (Ar.d e)))).drop B.length=[]:=Xz2 aC;generalize B.set o (.row az 11 ((bE l).map (Ar.d e)))=B1,l.length=n at*;simp[f1101,t,hB0,hO,hO1,tk,dp,FV.aA,FV.aT,o8]
end
section
section
variable {α:Type}
theorem gP (x y:Int):(fP x y=-1/\x<y)\/(fP x y=0/\x=y)\/(fP x y=1/\y<x):=by
 unfold fP
 by_cases h1:x<y
 ·exact .inl ⟨if_pos h1,h1⟩
 ·by_cases h2:y<x
  ·exact .inr (.inr ⟨by rw[if_neg h1,if_pos h2],h2⟩)
  ·exact .inr (.inl ⟨by rw[if_neg h1,if_neg h2],ae⟩)
def iH (a b:Ar α):Prop:=a.f<b.f\/a.f=b.f/\(a.l<b.l\/a.l=b.l/\a.t<b.t)
def mF (a b:Ar α):Prop:=a.f=b.f/\a.l=b.l/\a.t=b.t
theorem Ik (a b:Ar α):jL a b<0↔iH a b:=by
 unfold jL or3 iH;rcases gP a.f b.f with ⟨h,h'⟩|⟨h,h'⟩|⟨h,h'⟩<;>rcases gP a.l b.l with ⟨k,k'⟩|⟨k,k'⟩|⟨k,k'⟩<;>rcases gP a.t b.t with ⟨m,m'⟩|⟨m,m'⟩|⟨m,m'⟩<;>simp only[h,k,m]<;>simp<;>omega
theorem x_ (a b:Ar α):jL a b=0↔mF a b:=by
 unfold jL or3 mF;rcases gP a.f b.f with ⟨h,h'⟩|⟨h,h'⟩|⟨h,h'⟩<;>rcases gP a.l b.l with ⟨k,k'⟩|⟨k,k'⟩|⟨k,k'⟩<;>rcases gP a.t b.t with ⟨m,m'⟩|⟨m,m'⟩|⟨m,m'⟩<;>simp only[h,k,m]<;>simp<;>omega
theorem iY (a b:Ar α):iH a b\/mF a b\/iH b a:=by unfold iH mF;omega
theorem tO {a b:Ar α}(h:mF a b):¬ iH a b:=by unfold iH mF at*;omega
theorem uS {a b:Ar α}(h:iH a b):¬ iH b a:=by unfold iH at*;omega
theorem BO {a b:Ar α}(h:iH a b):¬ mF a b:=by unfold iH mF at*;omega
theorem KM {a b:Ar α}(h:iH a b):¬ mF b a:=by unfold iH mF at*;omega
theorem Gj {a b c:Ar α}(h:iH a b)(k:iH b c):iH a c:=by unfold iH at*;omega
theorem ah2 {a b c:Ar α}(h:¬ iH b a)(k:iH b c):iH a c:=by unfold iH at*;omega
theorem acX {a b c:Ar α}(h:iH a b)(k:¬ iH c b):iH a c:=by unfold iH at*;omega
theorem ah3 {a b c:Ar α}(h:¬ iH b a)(k:¬ iH c b):¬ iH c a:=by unfold iH at*;omega
def jf (pl:α->α->α)(a b:Ar α):Ar α:={a with x:=pl a.x b.x}
theorem aa6 {pl:α->α->α}{a b c:Ar α}:mF (jf pl a b) c↔mF a c:=Iff.rfl
instance (a b:Ar α):Decidable (iH a b):=by unfold iH;exact inferInstance
instance (a b:Ar α):Decidable (mF a b):=by unfold mF;exact inferInstance
def qO (x:Ar α):List (Ar α)->List (Ar α)
 | []=>[x]
 | y::r=>if iH x y then x::y::r else y::qO x r
def w_ (pl:α->α->α)(a:Ar α):List (Ar α)->List (Ar α)
 | []=>[a]
 | b::r=>if mF a b then w_ pl (jf pl a b) r else a::w_ pl b r
def mg (pl:α->α->α):List (Ar α)->List (Ar α)
 | []=>[]
 | a::r=>w_ pl a r
def aZ (pl:α->α->α)(x:Ar α):List (Ar α)->List (Ar α)
 | []=>[x]
 | y::r=>if iH y x then y::aZ pl x r else if mF y x then jf pl y x::r else x::y::r
abbrev Bj (l:List (Ar α)):Prop:=l.Pairwise fun a b=>¬ iH b a
theorem KN (pl:α->α->α):∀ (r:List (Ar α)) (a:Ar α),∃ y t,w_ pl a r=y::t/\mF y a
 | [],a=>⟨a,[],rfl,rfl,rfl,rfl⟩
 | b::r,a=>by
  unfold w_;split
  ·obtain⟨y,t,h1,h2⟩:=KN pl r (jf pl a b);exact⟨y,t,h1,h2⟩
  ·exact⟨a,_,rfl,rfl,rfl,rfl⟩
theorem yg {pl:α->α->α}{x:Ar α}(r:List (Ar α)){a:Ar α}(h:iH x a):aZ pl x (w_ pl a r)=x::w_ pl a r:=by
 obtain⟨y,t,h1,h2⟩:=KN pl r a;have h3:iH x y:=by unfold iH mF at*;omega
 rw[h1,aZ,if_neg (uS h3),if_neg (KM h3)]
theorem Il (pl:α->α->α)(x:Ar α):∀ (r:List (Ar α)) (a:Ar α),Bj (a::r)->¬ iH x a->w_ pl a (qO x r)=aZ pl x (w_ pl a r)
 | [],a,_,h=>by
  simp only[qO,w_]
  by_cases he:mF a x
  ·rw[if_pos he,aZ,if_neg (tO he),if_pos he]
  ·have hlt:iH a x:=by
    rcases iY a x with h1|h1|h1
    ·exact h1
    ·exact absurd h1 he
    ·exact absurd h1 h
   rw[if_neg he,aZ,if_pos hlt];rfl
 | b::r,a,hs,h=>by
  obtain⟨hab,hs2⟩:=Qn1.1 hs;have ak5:=hab b aC;unfold qO
  by_cases hxb:iH x b
  ·rw[if_pos hxb];have ah4:iH a b:=ah2 h hxb;have e1:w_ pl a (b::r)=a::w_ pl b r:=by rw[w_,if_neg (BO ah4)]
   rw[e1]
   by_cases he:mF a x
   ·have e2:w_ pl (jf pl a x) (b::r)=jf pl a x::w_ pl b r:=by rw[w_,if_neg (fun h'=>BO ah4 (aa6.1 h'))]
    rw[w_,if_pos he,e2,aZ,if_neg (tO he),if_pos he]
   ·have hlt:iH a x:=by
     rcases iY a x with h1|h1|h1
     ·exact h1
     ·exact absurd h1 he
     ·exact absurd h1 h
    have e2:w_ pl x (b::r)=x::w_ pl b r:=by rw[w_,if_neg (BO hxb)]
    rw[w_,if_neg he,e2,aZ,if_pos hlt,yg r hxb]
  ·rw[if_neg hxb]
   by_cases he:mF a b
   ·have hs3:Bj (jf pl a b::r):=Qn1.2 ⟨fun c hc=>hab c (by simp[hc]),(Qn1.1 hs2).2⟩;rw[w_,if_pos he,Il pl x r (jf pl a b) hs3 h,w_,if_pos he]
   ·have hlt:iH a b:=by
     rcases iY a b with h1|h1|h1
     ·exact h1
     ·exact absurd h1 he
     ·exact absurd h1 ak5
    rw[w_,if_neg he,Il pl x r b hs2 hxb,w_,if_neg he,aZ,if_pos (acX hlt hxb)]
theorem ae9 (pl:α->α->α)(x:Ar α):∀ (s:List (Ar α)),Bj s->mg pl (qO x s)=aZ pl x (mg pl s)
 | [],_=>rfl
 | a::r,hs=>by
  unfold qO
  by_cases h:iH x a
  ·rw[if_pos h]
   change w_ pl x (a::r)=aZ pl x (w_ pl a r)
   rw[yg r h,w_,if_neg (BO h)]
  ·rw[if_neg h];exact Il pl x r a hs h
theorem KO {x:Ar α}:∀ {s:List (Ar α)} {y:Ar α},y ∈ qO x s->y=x\/y ∈ s
 | [],y,h=>by simp[qO]at h;exact .inl h
 | a::r,y,h=>by
  unfold qO at h;split at h
  ·simpa using h
  ·rcases Qj0.1 h with h|h
   ·exact .inr (by simp[h])
   ·rcases KO h with h|h
    ·exact .inl h
    ·exact .inr (by simp[h])
theorem DZ (x:Ar α):∀ {s:List (Ar α)},Bj s->Bj (qO x s)
 | [],_=>by simp[qO,Bj]
 | a::r,hs=>by
  obtain⟨h1,h2⟩:=Qn1.1 hs;unfold qO;split
  ·rename_i h;refine Qn1.2 ⟨fun c hc => ?_,hs⟩;rcases Qj0.1 hc with rfl|hc
   ·exact uS h
   ·exact uS (acX h (h1 c hc))
  ·rename_i h;refine Qn1.2 ⟨fun c hc => ?_,DZ x h2⟩;rcases KO hc with rfl|hc
   ·exact h
   ·exact h1 c hc
theorem D5 (x:Ar α)(v:List (Ar α))(hv:∀ y,v.head?=some y->iH x y):∀ (u:List (Ar α)),(∀ y ∈ u,¬ iH x y)->qO x (u++v)=u++x::v
 | [],_=>by
  cases v with
  | nil=>rfl
  | cons y r=>simp only[Qs2,qO];rw[if_pos (hv y rfl)]
 | a::u,h=>by
  rw[Xe0,qO,if_neg (h a aC),D5 x v hv u (fun y hy=>h y (by simp[hy]))];rfl
theorem AP (x:Ar α)(p:List (Ar α)):∀ j,j<=p.length->(∀ i y,dR x p j<=i->i<j->p[i]?=some y->iH x y)/\(∀ y,0<dR x p j->p[dR x p j-1]?=some y->¬ iH x y)
 | 0,_=>⟨fun i y h1 h2=>by omega,fun y h=>by simp[dR]at h⟩
 | j+1,hj=>by
  have hy:p[j]?=some p[j]:=Qa1 ae;obtain⟨h1,h2⟩:=AP x p j ae
  by_cases hlt:jL x p[j]<0
  ·have hp:dR x p (j+1)=dR x p j:=by simp only[dR,hy,if_pos hlt]
   rw[hp];refine⟨fun i y g1 g2 g3 => ?_,h2⟩;rcases Qg0 i j with h|h
   ·exact h1 i y g1 h g3
   ·obtain rfl:i=j:=ae;rw[hy]at g3;cases g3;exact(Ik _ _).1 hlt
  ·have hp:dR x p (j+1)=j+1:=by simp only[dR,hy,if_neg hlt]
   rw[hp];refine⟨fun i y g1 g2=>by omega,fun y _ g => ?_⟩;simp only[Q22]at g;rw[hy]at g;cases g;exact fun h=>hlt ((Ik _ _).2 h)
theorem aa7 (x:Ar α){p:List (Ar α)}(hs:Bj p):tL x p=qO x p:=by
 obtain⟨h1,h2⟩:=AP x p p.length (Qe1 _);have hle:=zJ x p p.length;generalize hk:dR x p p.length=k at*;have:=D5 x (p.drop k) (fun y hy=>by
  rw[List.head?_drop]at hy;exact h1 k y (Qe1 _) (aU hy) hy) (p.take k) (fun y hy=>by
  obtain⟨i,hi⟩:=Xc1.1 hy;rw[Qp2]at hi;split at hi
  ·rename_i hik;have hlast:p[k-1]?=some p[k-1]:=Qa1 ae;have h3:=h2 p[k-1] ae hlast;rcases Qg0 i (k-1) with h|h
   ·have hii:=(Qq1.1 hi)
    have h4:=List.pairwise_iff_getElem.1 hs i (k-1) hii.1 ae h;rw[hii.2]at h4;exact ah3 h4 h3
   ·obtain rfl:i=k-1:=ae;rw[hlast]at hi;cases hi;exact h3
  ·cases hi)
 rw[Xh1]at this;unfold tL;rw[hk,this]
theorem D6:∀ (l p:List (Ar α)),Bj p->l.foldl (fun p x=>tL x p) p=l.foldl (fun p x=>qO x p) p/\Bj (l.foldl (fun p x=>qO x p) p)
 | [],p,h=>⟨rfl,h⟩
 | x::l,p,h=>by
  rw[Qk2,Qk2,aa7 x h];exact D6 l _ (DZ x h)
theorem WW (pl:α->α->α):∀ (l p:List (Ar α)),Bj p->mg pl (l.foldl (fun p x=>qO x p) p)=l.foldl (fun p x=>aZ pl x p) (mg pl p)
 | [],p,h=>rfl
 | x::l,p,h=>by
  rw[Qk2,Qk2,WW pl l _ (DZ x h),ae9 pl x p h]
def bX (pl:α->α->α)(l:List (Ar α)):List (Ar α):=l.foldl (fun p x=>aZ pl x p) []
theorem aa8 (pl:α->α->α)(l:List (Ar α)):mg pl (bE l)=bX pl l:=by
 unfold bE bX;rw[(D6 l [] (by simp[Bj])).1];exact WW pl l [] (by simp[Bj])
def kQ (pl:α->α->α)(out:List (Ar α))(x:Ar α):List (Ar α) :=
 match out.getLast? with
 | some y=>if mF y x then out.dropLast++[jf pl y x] else out++[x]
 | none=>[x]
theorem lT (pl:α->α->α)(p:List (Ar α))(y x:Ar α):kQ pl (p++[y]) x=if mF y x then p++[jf pl y x] else p++[y]++[x]:=by
 unfold kQ;simp
theorem tQ (pl:α->α->α):∀ (r p:List (Ar α)) (a:Ar α),r.foldl (kQ pl) (p++[a])=p++w_ pl a r
 | [],p,a=>rfl
 | b::r,p,a=>by
  rw[Qk2,lT,w_];split
  ·exact tQ pl r p _
  ·rw[tQ pl r (p++[a]) b,Qm1];rfl
theorem aa9 (pl:α->α->α)(s:List (Ar α)):s.foldl (kQ pl) []=mg pl s:=by
 cases s with
 | nil=>rfl
 | cons a r =>
  rw[Qk2];exact tQ pl r [] a
end
end
section
variable {α:Type}
structure TY (kk:Int)(ps:List Int)(e:α->W)(pl:α->α->α)(z:W)(bD:α->Bool)(G:Nat->α->Prop)(m:Nat):Prop where
 mono:∀ n x,G n x->G (n+1) x
 zero:Ca E1 26 [.d (aV kk ps)] (.d z.d,none)
 pz:∀ x,G 1 x->Ca E1 14 [.d (aV kk ps),.d (e x).d,.d z.d] (.d (e x).d,none)
 tk:∀ x,G 1 x->Ca E1 53 [.d (aV kk ps),.d (e x).d] (.d (e x).d,none)
 p1:∀ n x y,n<m->G n x->G 1 y->Ca E1 14 [.d (aV kk ps),.d (e x).d,.d (e y).d] (.d (e (pl x y)).d,none)
 p2:∀ n x y,n<m->G n x->G 1 y->Ca E1 19 [.d (aV kk ps),.d (e x).d,.d (e y).d] (.d (e (pl x y)).d,none)
 pg:∀ n x y,n<m->G n x->G 1 y->G (n+1) (pl x y)
 z1:∀ n x,n<=m->G n x->Ca E1 1104 [.d (aV kk ps),.d (e x).d] (dB (bD x),none)
 z2:∀ n x,n<=m->G n x->Ca E1 1126 [.d (aV kk ps),.d (e x).d] (dB (bD x),none)
theorem TY.up {kk:Int}{ps:List Int}{e:α->W}{pl:α->α->α}{z:W}{bD:α->Bool}{G:Nat->α->Prop}{m:Nat}(h:TY kk ps e pl z bD G m){x:α}(hx:G 1 x):∀ n,G (n+1) x
 | 0=>hx
 | n+1=>h.mono _ _ (h.up hx n)
def zK (x:Ar α)(aq:List (Ar α)):Nat:=(aq.findIdx? fun y => !decide (iH y x)).getD aq.length
theorem aa_ (x:Ar α)(aq:List (Ar α)):zK x aq<=aq.length:=by
 unfold zK;cases h:aq.findIdx? (fun y => !decide (iH y x)) with
 | none=>exact Qe1 _
 | some k =>
  rw[Qt0]at h;exact Nat.le_of_lt h.1
theorem Gl (x a:Ar α)(aq:List (Ar α)):zK x (a::aq)=if iH a x then zK x aq+1 else 0:=by
 unfold zK;rw[Xw0]
 by_cases h:iH a x
 ·simp only[h,decide_true,Xk2,Qi0,if_false,if_true];cases aq.findIdx? (fun y => !decide (iH y x))<;>simp
 ·simp[h]
theorem D7 (pl:α->α->α)(x:Ar α):∀ aq:List (Ar α),(∀ y,aq[zK x aq]?=some y->¬ mF y x)->aZ pl x aq=aq.take (zK x aq)++x::aq.drop (zK x aq)
 | [],_=>rfl
 | a::aq,h=>by
  rw[Gl]at h ⊢
  by_cases hl:iH a x
  ·rw[if_pos hl]at h ⊢;rw[aZ,if_pos hl,D7 pl x aq (fun y hy=>h y (by simpa using hy))];rfl
  ·rw[if_neg hl]at h ⊢;rw[aZ,if_neg hl,if_neg (h a rfl)];rfl
theorem AQ (pl:α->α->α)(x y:Ar α):∀ aq:List (Ar α),aq[zK x aq]?=some y->mF y x->aZ pl x aq=aq.set (zK x aq) (jf pl y x)
 | [],h,_=>by simp at h
 | a::aq,h,he=>by
  rw[Gl]at h ⊢
  by_cases hl:iH a x
  ·rw[if_pos hl]at h ⊢;rw[aZ,if_pos hl,AQ pl x y aq (by simpa using h) he];rfl
  ·rw[if_neg hl]at h ⊢;simp at h;subst h;rw[aZ,if_neg hl,if_pos he];rfl
theorem wF (pl:α->α->α)(x:Ar α):∀ aq:List (Ar α),(aZ pl x aq).length<=aq.length+1
 | []=>by simp[aZ]
 | a::aq=>by
  unfold aZ;have:=wF pl x aq;split
  ·simp;omega
  ·split<;>simp
theorem nM (pl:α->α->α)(x:Ar α)(P Q:Ar α->Prop)(hx:Q x)(hPQ:∀ y,P y->Q y)(hpl:∀ y,P y->Q (jf pl y x)):∀ aq:List (Ar α),(∀ y ∈ aq,P y)->∀ y ∈ aZ pl x aq,Q y
 | [],_,y,hy=>by simp[aZ]at hy;subst hy;exact hx
 | a::aq,h,y,hy=>by
  unfold aZ at hy;split at hy
  ·rcases Qj0.1 hy with rfl|hy
   ·exact hPQ _ (h _ aC)
   ·exact nM pl x P Q hx hPQ hpl aq (fun y hy=>h y (by simp[hy])) y hy
  ·split at hy
   ·rcases Qj0.1 hy with rfl|hy
    ·exact hpl _ (h _ aC)
    ·exact hPQ _ (h _ (by simp[hy]))
   ·rcases Qj0.1 hy with rfl|hy
    ·exact hx
    ·exact hPQ _ (h _ hy)
theorem Ob (pl:α->α->α)(x:Ar α)(P Q:Ar α->Prop)(hx:Q x)(hPQ:∀ y,P y->Q y)(hpl:∀ y,P y->Q (jf pl y x))(aq:List (Ar α))(h:∀ y ∈ aq,P y):∀ y ∈ kQ pl aq x,Q y:=by
 intro y hy;rcases Xc0 aq with rfl|⟨q,a,rfl⟩
 ·simp[kQ]at hy;subst hy;exact hx
 ·rw[Q50]at*;rw[lT]at hy;split at hy
  ·rcases Qw2.1 hy with hy|hy
   ·exact hPQ _ (h _ (by simp[hy]))
   ·simp at hy;subst hy;exact hpl _ (h _ aC)
  ·rcases Qw2.1 hy with hy|hy
   ·exact hPQ _ (h _ hy)
   ·simp at hy;subst hy;exact hx
theorem Oc (pl:α->α->α)(x:Ar α)(aq:List (Ar α)):(kQ pl aq x).length<=aq.length+1:=by
 rcases Xc0 aq with rfl|⟨q,a,rfl⟩
 ·simp[kQ]
 ·rw[Q50,lT];split<;>simp
theorem WX {x:Ar α}{p:List (Ar α)}{y:Ar α}(h:y ∈ tL x p):y=x\/y ∈ p:=by
 unfold tL at h;rcases Qw2.1 h with h|h
 ·exact .inr (Qo1 h)
 ·rcases Qj0.1 h with h|h
  ·exact .inl h
  ·exact .inr (Q31 h)
theorem AR:∀ (l p:List (Ar α)) {y:Ar α},y ∈ l.foldl (fun p x=>tL x p) p->y ∈ p\/y ∈ l
 | [],p,y,h=>.inl h
 | x::l,p,y,h=>by
  rw[Qk2]at h;rcases AR l _ h with h|h
  ·rcases WX h with h|h
   ·exact .inr (by simp[h])
   ·exact .inl h
  ·exact .inr (by simp[h])
theorem KP {l:List (Ar α)}{y:Ar α}(h:y ∈ bE l):y ∈ l:=by
 rcases AR l [] h with h|h
 ·simp at h
 ·exact h
end
end Fi.S
noncomputable section
namespace Fi.S
open Go Fi
set_option maxHeartbeats 8000000
set_option maxRecDepth 10000
theorem R4 {k:Int}(hk:single k=true){S T M M':Nat}(hS:1<=S)(hT:1<=T){x y:Sv}(hx:x.of k S M)(hy:y.of k T M'):(dJ k x y).of k (S+T+1) (M+M'):=by
 rcases aQ hk with rfl|rfl|rfl|rfl|rfl
 ·obtain⟨a,rfl,h1⟩:=xR hx;obtain⟨b,rfl,h2⟩:=xR hy;refine⟨.inl rfl,?_⟩;have:=qy a b;show qz (a+b)<=_;omega
 ·obtain⟨a,n,rfl,h1⟩:=xS hx;obtain⟨b,m,rfl,h2⟩:=xS hy;show Sv.of 2 _ _ (if ou b m a n then .c b m else .c a n);split
  ·exact hy
  ·exact hx
 ·obtain⟨a,rfl,h1⟩:=xU hx;obtain⟨b,rfl,h2⟩:=xU hy;show Sv.of 3 _ _ (if a<b then .q b else .q a);split
  ·exact Sv.of.mono hy ae ae
  ·exact Sv.of.mono hx ae ae
 ·obtain⟨a,rfl,h1⟩:=xV hx;obtain⟨b,rfl,h2⟩:=xV hy;exact⟨rfl,aaS a b⟩
 ·obtain⟨a,rfl,h1,h2⟩:=xW hx;obtain⟨b,rfl,h3,h4⟩:=xW hy;exact⟨rfl,gY hS hT h1 h3,Qd1 (Au a b) (Nat.add_le_add h2 h4)⟩
theorem D8 {S T M M':Nat}(hS:1<=S)(hT:1<=T){ps:List Int}(hs:∀ k ∈ ps,single k=true){xs ys:List Sv}(hx:iB S M ps xs)(hy:iB T M' ps ys):iB (S+T+1) (M+M') ps (bO ps xs ys):=by
 refine⟨by simp[bO,hx.1,hy.1],fun i k z hk hz => ?_⟩;obtain⟨k',x,y,h1,h2,h3,rfl⟩:=g_ hz;rw[hk]at h1;cases h1;exact R4 (hs k (Qa2 hk)) hS hT (hx.2 i k x hk h2) (hy.2 i k y hk h3)
def bY (kk:Int)(ps:List Int):List Sv:=(dN kk ps).map dP
def Gm (kk:Int)(ps:List Int):List Sv:=(dN kk ps).map pM
def lV (kk:Int)(ps:List Int)(xs:List Sv):Bool:=(bV kk xs).eq (bV kk (bY kk ps))
theorem WY {kk:Int}{ps:List Int}(hv:aM kk ps=true){S M:Nat}{xs:List Sv}(hS:S<=1000)(hx:iB S M (dN kk ps) xs) :
  Ca E1 1104 [.d (aV kk ps),.d (bV kk xs).d] (dB (lV kk ps xs),none)/\Ca E1 1126 [.d (aV kk ps),.d (bV kk xs).d] (dB (lV kk ps xs),none):=by
 have ok1:=KD hv hS hx;have ok0:(bV kk (bY kk ps)).OK:=KD hv (S:=1) (M:=1) ae (nC ae (aY hv));obtain⟨K,hK,a1,a2,a3,a4⟩:=((Ca.gV (o_ _ ok1 _ ok0)).j ((Ca.gV (pE _ ok1 _ ok0)).j ((Gg hv).j ((Ih hv).any)))).at 0;unfold lV;rw[show(dN kk ps).map dP=bY kk ps from rfl]at a3 a4;generalize (bV kk xs).eq (bV kk (bY kk ps))=b at*;obtain⟨xs',xl1,xl2,xc,xb,xu,xp,xq,ex⟩:=(bV kk xs).aP;obtain⟨zs,Fe,Ff,zc,zb,zu,zp,zq,ez⟩:=(bV kk (bY kk ps)).aP;simp only[ex,ez]at*;clear ok1 ok0 hx ex ez hv;unfold wD aV at*;refine⟨?_,?_⟩
 ·refine Ca.bQ (n:=K+100) ?_;rw[aB rfl (aO 1104 f1104:E1.fn _=_) rfl];simp[f1104,a1,a3]
 ·refine Ca.bQ (n:=K+100) ?_;rw[aB rfl (aO 1126 f1126:E1.fn _=_) rfl];simp[f1126,a2,a4]
end Fi.S
