import Derived.Test.YtckkhcnfdmlabaaGreatDoorCP
set_option linter.unusedVariables false
set_option linter.unusedSimpArgs false
noncomputable section
namespace Fi
open Go
section
section
variable {E:Env} {α β:Type} {b:aG}
theorem Ex.mI (l:List α)(p:α->Bool)(S:Nat->St)(R F:Out × St)(hR:R.1≠.norm)(hF:F.1≠.norm)
  (round:∀ (j:Nat) (a:α),l[j]?=some a->Ex E b (S j) (if p a then(.norm,S (j+1)) else F)) (last:Ex E b (S l.length) R):Ex E (.loop b) (S 0) (if l.all p then R else F):=by
 have key:∀ (d j:Nat),j+d=l.length->Ex E (.loop b) (S j) (if (l.drop j).all p then R else F):=by
  intro d
  induction d with
  | zero =>
   intro j hj;obtain rfl:j=l.length:=by omega
   rw[List.drop_length];exact Ex.leave last hR
  | succ d ih =>
   intro j hj;have hlt:j<l.length:=by omega
   have hr:=round j _ (List.getElem?_eq_getElem hlt);rw[List.drop_eq_getElem_cons hlt,List.all_cons];cases hp:p l[j] with
   | false =>
    rw[hp]at hr;exact Ex.leave hr hF
   | true =>
    rw[hp]at hr;rw[Bool.true_and];exact Ex.next hr (ih (j+1) (by omega))
 exact key l.length 0 (by omega)
theorem Ex.tK (l:List α)(p:α->Bool)(S:Nat->St)(R:Out × St)(F:Nat->Out × St)(hR:R.1≠.norm)(hF:∀ j,(F j).1≠.norm)
  (round:∀ (j:Nat) (a:α),l[j]?=some a->Ex E b (S j) (if p a then F j else(.norm,S (j+1)))) (last:Ex E b (S l.length) R):Ex E (.loop b) (S 0) (match l.findIdx? p with
   | some j=>F j
   | none=>R):=by
 have key:∀ (d j:Nat),j+d=l.length->(∀ i a,i<j->l[i]?=some a->p a=false)->Ex E (.loop b) (S j) (match l.findIdx? p with
   | some j=>F j
   | none=>R):=by
  intro d
  induction d with
  | zero =>
   intro j hj hno;obtain rfl:j=l.length:=by omega
   have:l.findIdx? p=none:=by
    rw[List.findIdx?_eq_none_iff];intro x hx;obtain⟨i,hi⟩:=List.mem_iff_getElem?.1 hx;exact hno i x (aW hi) hi
   rw[this];exact Ex.leave last hR
  | succ d ih =>
   intro j hj hno;have hlt:j<l.length:=by omega
   have hr:=round j _ (List.getElem?_eq_getElem hlt);cases hp:p l[j] with
   | true =>
    rw[hp]at hr;have:l.findIdx? p=some j:=by
     rw[List.findIdx?_eq_some_iff_getElem];exact⟨hlt,hp,fun i hi=>by rw[hno i _ hi (List.getElem?_eq_getElem (by omega))];simp⟩
    rw[this];exact Ex.leave hr (hF j)
   | false =>
    rw[hp]at hr;refine Ex.next hr (ih (j+1) (by omega) (fun i a hi ha => ?_))
    rcases Nat.lt_or_ge i j with h|h
    ·exact hno i a h ha
    ·obtain rfl:i=j:=by omega
     rw[List.getElem?_eq_getElem hlt]at ha;cases ha;exact hp
 exact key l.length 0 (by omega) (fun i a hi=>by omega)
theorem Ex.fold (l:List α)(f:β->α->β)(z:β)(I:Nat->β->St->Prop)(Q:β->Out × St->Prop)
  (round:∀ (j:Nat) (a:α) (st:St),l[j]?=some a->I j ((l.take j).foldl f z) st->∃ st',Ex E b st (.norm,st')/\I (j+1) (f ((l.take j).foldl f z) a) st')
  (last:∀ st,I l.length (l.foldl f z) st->∃ r,Ex E b st r/\r.1≠.norm/\Q (l.foldl f z) r) {st:St} (h0:I 0 z st):∃ r,Ex E (.loop b) st r/\Q (l.foldl f z) r:=by
 have key:∀ (d j:Nat) (st:St),j+d=l.length->I j ((l.take j).foldl f z) st->∃ r,Ex E (.loop b) st r/\Q (l.foldl f z) r:=by
  intro d
  induction d with
  | zero =>
   intro j st hj hI;obtain rfl:j=l.length:=by omega
   rw[List.take_length]at hI;obtain⟨r,h1,h2,h3⟩:=last st hI;exact⟨r,Ex.leave h1 h2,h3⟩
  | succ d ih =>
   intro j st hj hI;have hlt:j<l.length:=by omega
   obtain⟨st',h1,h2⟩:=round j _ st (List.getElem?_eq_getElem hlt) hI;have h3:(l.take (j+1)).foldl f z=f ((l.take j).foldl f z) l[j]:=by rw[List.take_succ_eq_append_getElem hlt,List.foldl_append];rfl
   rw[<-h3]at h2;obtain⟨r,h4,h5⟩:=ih (j+1) st' (by omega) h2;exact⟨r,h1.next h4,h5⟩
 exact key l.length 0 st (by omega) (by simpa using h0)
end
end
end Fi
namespace Fi.S
open Go Fi
set_option maxHeartbeats 8000000
section
structure Ar (α:Type) where
 f:Int
 l:Int
 t:Int
 x:α
def nW (f l t:Int)(s:Bool)(l1 l2:List D)(c:Int)(b:Bool)(u:Int)(p ps:List D):D:=.a [.v (.int .i64 f),.v (.int .i64 l),.v (.int .i64 t),.v (.bool s),.s 1 l1,.s 1 l2,.v (.int .i64 c),.v (.bool b),.v (.int .u64 u),.s 6 p,.s 8 ps]
variable {α:Type}
def Ar.d (e:α->W)(a:Ar α):D:=.a (.v (.int .i64 a.f)::.v (.int .i64 a.l)::.v (.int .i64 a.t)::(e a.x).d.cells)
theorem Ar.dN (e:α->W)(a:Ar α):∃ s l1 l2 c b u p ps,(e a.x).d=wD s l1 l2 c b u p ps/\a.d e=nW a.f a.l a.t s l1 l2 c b u p ps:=by
 obtain⟨s,l1,l2,c,b,u,p,ps,h⟩:=(e a.x).aF;exact⟨s,l1,l2,c,b,u,p,ps,h,by unfold Ar.d nW;rw[h];rfl⟩
def Zc (x y z:Int):Int:=if x=0 then if y=0 then z else y else x
def iW (a b:Ar α):Int:=Zc (fD a.f b.f) (fD a.l b.l) (fD a.t b.t)
theorem acT (n:Nat)(x y z:Int):CL E0 (n+200) 1109 [.d (.s 1 [.v (.int .i64 x),.v (.int .i64 y),.v (.int .i64 z)])] []=some (.d (.v (.int .i64 (Zc x y z))),none):=by
 have w1:ak .i64 1=1:=wrap_i64 (by omega);have w2:ak .i64 2=2:=wrap_i64 (by omega);have w3:ak .i64 3=3:=wrap_i64 (by omega);rw[av rfl (k1109:E0.fn _=_) rfl];unfold Zc
 by_cases h1:x=0
 ·subst h1
  by_cases h2:y=0
  ·subst h2
   by_cases h3:z=0
   ·subst h3;simp -implicitDefEqProofs[f1109,aC,w1,w2,w3]
   ·have e3:(z != 0)=true:=by simpa using h3
    simp -implicitDefEqProofs[f1109,aC,w1,w2,w3,e3]
  ·have e2:(y != 0)=true:=by simpa using h2
   simp -implicitDefEqProofs[f1109,aC,w1,w2,w3,e2,h2]
 ·have e1:(x != 0)=true:=by simpa using h1
  simp -implicitDefEqProofs[f1109,aC,w1,w2,w3,e1,h1]
theorem xQ (e:α->W)(n:Nat)(a b:Ar α):CL E0 (n+400) 1070 [.d (a.d e),.d (b.d e)] []=some (.d (.v (.int .i64 (iW a b))),none):=by
 obtain⟨s,l1,l2,c,i,u,p,ps,_,ea⟩:=a.dN e;obtain⟨s',l1',l2',c',i',u',p',ps',_,eb⟩:=b.dN e;rw[ea,eb];have c1:=fun m=>oW m a.f b.f
 have c2:=fun m=>oW m a.l b.l
 have c3:=fun m=>oW m a.t b.t
 have t:=fun m=>acT m (fD a.f b.f) (fD a.l b.l) (fD a.t b.t)
 unfold iW;generalize fD a.f b.f=x,fD a.l b.l=y,fD a.t b.t=z at*;generalize Zc x y z=r at*;rw[av rfl (k1070:E0.fn _=_) rfl];unfold nW;simp -implicitDefEqProofs[f1070,c1,c2,c3,t]
end
section
variable {α:Type} {e:α->W}
def inM:aG:=f1208.body.r.bl.lp.r.l.bl.r.bl.lp
def MC (o az n:Nat)(B:List ae)(i j:Nat)(t:FV)(dt:Bool):St :=
 {vars:=[.ls (.old o) az 11 0 n,.d (.v (.int .i64 0)),.d (.v (.int .i64 n)),.d (.fn 1070),.d (.v (.int .i64 i)),.d (.v (.int .i64 j)),.u,t],base:=B,loc:=[],aT:=dt}
theorem Zd (o az n:Nat)(B:List ae)(i k:Nat)(dt:Bool)(es:List D)(x y:Ar α)(hB:B[o]?=some (.row az 11 es))(hn:es.length=n)(hn2:n<=1000000)(hx:es[k+1]?=some (x.d e))(hy:es[k]?=some (y.d e))(hlt:iW x y<0) :
  Ex E0 inM (MC o az n B i (k+1) .u dt) (.norm,MC o az n (B.set o (.row az 11 ((es.set (k+1) (y.d e)).set k (x.d e)))) i k .u true):=by
 have t:=fun m=>xQ e m x y
 have hol:o<B.length:=(aW hB)
 have hkl:k+1<es.length:=(aW hx)
 have hkn:(k:Int)+1<(n:Int):=by omega
 have hkn2:(k:Int)<(n:Int):=by omega
 have hk0:(0:Int)<=(k:Int):=by omega
 have hk1:(0:Int)<=(k:Int)+1:=by omega
 have hgt:(0:Int)<(k:Int)+1:=by omega
 have tn:((k:Int)+1).toNat=k+1:=by omega
 have hw:ak .i64 (k:Int)=(k:Int):=wrap_i64 (by omega);have hk2:((k+1:Nat):Int)=(k:Int)+1:=by omega
 have s1:∀ r,(es.set (k+1) r)[k]?=some (y.d e):=fun r=>by rw[List.getElem?_set_ne (by omega)];exact hy
 generalize iW x y=od at*;obtain⟨s,l1,l2,c,b,u,p,ps,_,ex⟩:=x.dN e;obtain⟨s',l1',l2',c',b',u',p',ps',_,ey⟩:=y.dN e;simp only[ex,ey]at t hx hy s1 ⊢;clear ex ey;unfold nW at*;generalize x.f=xf,x.l=xl,x.t=xt,y.f=yf,y.l=yl,y.t=yt at*;have nU:k<es.length:=by omega
 refine Ex.of (n:=500) ?_;unfold MC;rw[hk2];have i1:=idx hx;have i2:=idx hy;have i3:=idx hB;have i4:∀ r (h:k<(es.set (k+1) r).length),(es.set (k+1) r)[k]=_:=fun r h=>idx (s1 r) h
 simp -implicitDefEqProofs[inM,f1208,t,hol,hkl,hkn,hkn2,hk0,hk1,hgt,tn,hw,hB,hx,hy,s1,i1,i2,i3,i4,hlt,nU,hn]
theorem Ze (o az n:Nat)(B:List ae)(i k:Nat)(dt:Bool)(es:List D)(x y:Ar α)(hB:B[o]?=some (.row az 11 es))(hn:es.length=n)(hn2:n<=1000000)(hx:es[k+1]?=some (x.d e))(hy:es[k]?=some (y.d e))(hlt:¬ iW x y<0) :
  Ex E0 inM (MC o az n B i (k+1) .u dt) (.exit 2,MC o az n B i (k+1) (.d (.v (.bool false))) dt):=by
 have t:=fun m=>xQ e m x y
 have hol:o<B.length:=(aW hB)
 have hkl:k+1<es.length:=(aW hx)
 have hkn:(k:Int)+1<(n:Int):=by omega
 have hkn2:(k:Int)<(n:Int):=by omega
 have hk0:(0:Int)<=(k:Int):=by omega
 have hk1:(0:Int)<=(k:Int)+1:=by omega
 have hgt:(0:Int)<(k:Int)+1:=by omega
 have tn:((k:Int)+1).toNat=k+1:=by omega
 have hw:ak .i64 (k:Int)=(k:Int):=wrap_i64 (by omega);have hk2:((k+1:Nat):Int)=(k:Int)+1:=by omega
 generalize iW x y=od at*;have hge:0<=od:=by omega
 obtain⟨s,l1,l2,c,b,u,p,ps,_,ex⟩:=x.dN e;obtain⟨s',l1',l2',c',b',u',p',ps',_,ey⟩:=y.dN e;simp only[ex,ey]at t hx hy ⊢;clear ex ey;unfold nW at*;generalize x.f=xf,x.l=xl,x.t=xt,y.f=yf,y.l=yl,y.t=yt at*;have nU:k<es.length:=by omega
 refine Ex.of (n:=500) ?_;unfold MC;rw[hk2];have i1:=idx hx;have i2:=idx hy;have i3:=idx hB;simp -implicitDefEqProofs[inM,f1208,t,hol,hkl,hkn,hkn2,hk0,hk1,hgt,tn,hw,hB,hx,hy,i1,i2,i3,hlt,nU,hn,hge]
theorem Zf (o az n:Nat)(B:List ae)(i:Nat)(dt:Bool):Ex E0 inM (MC o az n B i 0 .u dt) (.exit 2,MC o az n B i 0 (.d (.v (.bool false))) dt):=by
 refine Ex.of (n:=100) ?_;unfold MC;simp -implicitDefEqProofs[inM,f1208]
end
section
variable {α:Type} {e:α->W}
def dC (x:Ar α)(p:List (Ar α)):Nat->Nat
 | 0=>0
 | j+1=>match p[j]? with
  | some y=>if iW x y<0 then dC x p j else j+1
  | none=>j+1
theorem zx (x:Ar α)(p:List (Ar α)):∀ j,dC x p j<=j
 | 0=>Nat.le_refl _
 | j+1=>by
  unfold dC;split
  ·split
   ·exact Nat.le_succ_of_le (zx x p j)
   ·exact Nat.le_refl _
  ·exact Nat.le_refl _
def tL (x:Ar α)(p:List (Ar α)):List (Ar α):=p.take (dC x p p.length)++x::p.drop (dC x p p.length)
def bu (l:List (Ar α)):List (Ar α):=l.foldl (fun p x=>tL x p) []
theorem Vm (x:Ar α)(p:List (Ar α)):(tL x p).length=p.length+1:=by
 unfold tL;have:=zx x p p.length;simp only[List.length_append,List.length_take,List.length_cons,List.length_drop];omega
theorem Ao:∀ (l p:List (Ar α)),(l.foldl (fun p x=>tL x p) p).length=p.length+l.length
 | [],p=>rfl
 | x::l,p=>by rw[List.foldl_cons,Ao l,Vm];simp;omega
theorem lI (l:List (Ar α)):(bu l).length=l.length:=by
 unfold bu;rw[Ao];simp
def KR (e:α->W)(p q:List (Ar α))(x:Ar α)(j:Nat):List D:=((p.take j++x::p.drop j)++q).map (Ar.d e)
theorem Zg (p q:List (Ar α))(x:Ar α)(j:Nat)(h:j<=p.length):(KR e p q x j).length=p.length+1+q.length:=by
 unfold KR;simp only[List.length_map,List.length_append,List.length_take,List.length_cons,List.length_drop];omega
theorem aaP {p q:List (Ar α)}{x:Ar α}{j:Nat}(h:j<=p.length):(KR e p q x j)[j]?=some (x.d e):=by
 unfold KR;rw[List.getElem?_map,List.append_assoc,List.getElem?_append_right (by simp[Nat.min_eq_left h])];simp[Nat.min_eq_left h]
theorem aaQ {p q:List (Ar α)}{x y:Ar α}{j:Nat}(h:p[j]?=some y):(KR e p q x (j+1))[j]?=some (y.d e):=by
 have hj:=(aW h)
 unfold KR;rw[List.getElem?_map,List.append_assoc,List.getElem?_append_left (by simp;omega),List.getElem?_take,if_pos (by omega),h];rfl
theorem Vn {p q:List (Ar α)}{x y:Ar α}{j:Nat}(h:p[j]?=some y):((KR e p q x (j+1)).set (j+1) (y.d e)).set j (x.d e)=KR e p q x j:=by
 obtain⟨hj,hy⟩:=List.getElem?_eq_some_iff.1 h;subst hy;unfold KR;rw[List.take_succ_eq_append_getElem hj,List.drop_eq_getElem_cons hj];simp only[List.map_append,List.map_cons,List.append_assoc,List.cons_append,List.nil_append,List.map_nil];have hl:(List.map (Ar.d e) (List.take j p)).length=j:=by simp;omega
 rw[List.set_append_right _ _ (by omega),List.set_append_right _ _ (by omega),hl];simp
theorem Oo (o az n i:Nat)(B:List ae)(ho:o<B.length)(p q:List (Ar α))(x:Ar α)(hn:p.length+1+q.length=n)(hn2:n<=1000000):∀ (j:Nat),j<=p.length->∀ dt,∃ Et,
  Ex E0 (.loop inM) (MC o az n (B.set o (.row az 11 (KR e p q x j))) i j .u dt) (.exit 2,MC o az n (B.set o (.row az 11 (KR e p q x (dC x p j)))) i (dC x p j) (.d (.v (.bool false))) Et)/\(Et=false->dt=false/\dC x p j=j)
 | 0,_,dt=>⟨dt,Ex.leave (Zf o az n _ i dt) (by simp),fun h=>⟨h,rfl⟩⟩
 | j+1,hj,dt=>by
  have hy:p[j]?=some p[j]:=List.getElem?_eq_getElem (by omega);have hl:=Zg (e:=e) p q x (j+1) hj;have hB:(B.set o (.row az 11 (KR e p q x (j+1))))[o]?=some (.row az 11 (KR e p q x (j+1))):=List.getElem?_set_self ho
  by_cases hlt:iW x p[j]<0
  ·have hp:dC x p (j+1)=dC x p j:=by simp only[dC,hy,if_pos hlt]
   rw[hp];have hr:=Zd o az n _ i j dt _ x p[j] hB (by omega) hn2 (aaP hj) (aaQ hy) hlt;rw[Vn hy,List.set_set]at hr;obtain⟨Et,h1,h2⟩:=Oo o az n i B ho p q x hn hn2 j (by omega) true;exact⟨Et,hr.next h1,fun h=>absurd (h2 h).1 (by simp)⟩
  ·have hp:dC x p (j+1)=j+1:=by simp only[dC,hy,if_neg hlt]
   rw[hp];exact⟨dt,Ex.leave (Ze o az n _ i j dt _ x p[j] hB (by omega) hn2 (aaP hj) (aaQ hy) hlt) (by simp),fun h=>⟨h,rfl⟩⟩
def tN (o az n:Nat)(B:List ae)(i:Nat)(t:FV)(dt:Bool):St :=
 {vars:=[.ls (.old o) az 11 0 n,.d (.v (.int .i64 0)),.d (.v (.int .i64 n)),.d (.fn 1070),.d (.v (.int .i64 i)),.u,t,.u],base:=B,loc:=[],aT:=dt}
def ME:aG:=f1208.body.r.bl.lp
theorem Qt (o az n i:Nat)(B:List ae)(ho:o<B.length)(p q:List (Ar α))(x:Ar α)(hp:p.length=i)(hn:p.length+1+q.length=n)(hn2:n<=1000000)(dt:Bool):∃ Et,
  Ex E0 ME (tN o az n (B.set o (.row az 11 ((p++x::q).map (Ar.d e)))) i .u dt) (.norm,tN o az n (B.set o (.row az 11 ((tL x p++q).map (Ar.d e)))) (i+1) .u Et)/\(Et=false->dt=false/\tL x p=p++[x]):=by
 obtain⟨Et,h1,h2⟩:=Oo o az n i B ho p q x hn hn2 p.length (Nat.le_refl _) dt;have e0:KR e p q x p.length=(p++x::q).map (Ar.d e):=by unfold KR;simp
 have e1:KR e p q x (dC x p p.length)=(tL x p++q).map (Ar.d e):=rfl;rw[e0,e1]at h1;refine⟨Et,?_,fun h=>⟨(h2 h).1,by unfold tL;rw[(h2 h).2];simp⟩⟩;have hin:(i:Int)<(n:Int):=by omega
 have hw:ak .i64 ((i:Int)+1)=(i:Int)+1:=wrap_i64 (by omega);have hi1:((i+1:Nat):Int)=(i:Int)+1:=by omega
 generalize (p++x::q).map (Ar.d e)=e2 at*;generalize (tL x p++q).map (Ar.d e)=e3,dC x p p.length=j2 at*;rw[hp]at h1;refine Ex.seq (st1:=tN o az n (B.set o (.row az 11 e2)) i (.d (.v (.bool true))) dt) (Ex.of (n:=60) (by unfold tN;simp -implicitDefEqProofs[ME,f1208,hin])) ?_;refine Ex.seq (st1:=MC o az n (B.set o (.row az 11 e3)) i j2 (.d (.v (.bool false))) Et) (Ex.dK (Ex.seq (st1:=MC o az n (B.set o (.row az 11 e2)) i i .u dt) (Ex.of (n:=60) (by unfold tN MC;simp -implicitDefEqProofs[ME,f1208])) (Ex.block h1))) ?_;refine Ex.of (n:=60) ?_;unfold tN MC;rw[hi1];simp -implicitDefEqProofs[ME,f1208,hw]
theorem JQ (o az n i:Nat)(B:List ae)(hi:n<=i)(dt:Bool):Ex E0 ME (tN o az n B i .u dt) (.exit 0,tN o az n B i (.d (.v (.bool false))) dt):=by
 refine Ex.of (n:=60) ?_;have hin:¬ (i:Int)<(n:Int):=by omega
 have hin2:(n:Int)<=(i:Int):=by omega
 unfold tN;simp -implicitDefEqProofs[ME,f1208,hin,hin2]
theorem JR (o az:Nat)(B:List ae)(ho:o<B.length)(l:List (Ar α))(hn2:l.length<=1000000):∀ (d i:Nat),i+d=l.length->∀ dt,∃ Et,
  Ex E0 (.loop ME) (tN o az l.length (B.set o (.row az 11 ((bu (l.take i)++l.drop i).map (Ar.d e)))) i .u dt) (.exit 0,tN o az l.length (B.set o (.row az 11 ((bu l).map (Ar.d e)))) l.length (.d (.v (.bool false))) Et) /\
   (Et=false->dt=false/\bu l=bu (l.take i)++l.drop i)
 | 0,i,hi,dt=>by
  obtain rfl:i=l.length:=by omega
  rw[List.take_length,List.drop_length,List.append_nil];exact⟨dt,Ex.leave (JQ o az _ _ _ (Nat.le_refl _) dt) (by simp),fun h=>⟨h,rfl⟩⟩
 | d+1,i,hi,dt=>by
  have hlt:i<l.length:=by omega
  have e1:bu (l.take (i+1))=tL l[i] (bu (l.take i)):=by
   unfold bu;rw[List.take_succ_eq_append_getElem hlt,List.foldl_append];rfl
  obtain⟨dt1,h1,h2⟩:=Qt o az l.length i B ho (bu (l.take i)) (l.drop (i+1)) l[i] (by rw[lI];simp;omega) (by rw[lI];simp;omega) hn2 dt;rw[<-List.drop_eq_getElem_cons hlt,<-e1]at h1;obtain⟨dt2,h3,h4⟩:=JR o az B ho l hn2 d (i+1) (by omega) dt1;refine⟨dt2,h1.next h3,fun h => ?_⟩;obtain⟨g1,g2⟩:=h4 h;obtain⟨g3,g4⟩:=h2 g1;refine⟨g3,?_⟩;rw[g2,e1,g4,List.append_assoc,List.singleton_append,<-List.drop_eq_getElem_cons hlt]
def sorted (e:α->W)(o az:Nat)(B:List ae)(l:List (Ar α))(r:FV × Option (List ae)):Prop :=
 (r=(.d (.t []),none)/\bu l=l)\/r=(.d (.t []),some (B.set o (.row az 11 ((bu l).map (Ar.d e)))))
theorem acV (o az:Nat)(B:List ae)(l:List (Ar α))(hB:B[o]?=some (.row az 11 (l.map (Ar.d e))))(hO:∀ n,B.map (ae.aA n)=B)(hn:l.length<=1000000) :
  ∃ r N,(∀ m,CL E0 (N+m) 1208 [.ls (.old o) az 11 0 l.length,.d (.v (.int .i64 0)),.d (.v (.int .i64 l.length)),.d (.fn 1070)] B=some r)/\sorted e o az B l r:=by
 have ho:o<B.length:=(aW hB)
 have hself:B.set o (.row az 11 (l.map (Ar.d e)))=B:=by
  obtain⟨h,e⟩:=List.getElem?_eq_some_iff.1 hB;rw[<-e,List.set_getElem_self]
 have hset:∀ n r,(∀ k,ae.aA k r=r)->(B.set o r).map (ae.aA n)=B.set o r:=fun n r hr=>by rw[List.map_set,hO,hr]
 obtain⟨dt,st,hrun,hdt,hst⟩:∃ (dt:Bool) (i:Nat),Ex E0 f1208.body (tN o az l.length B 0 .u false |> fun s=>{s with vars:=[.ls (.old o) az 11 0 l.length,.d (.v (.int .i64 0)),.d (.v (.int .i64 l.length)),.d (.fn 1070),.u,.u,.u,.u]}) (.norm,tN o az l.length (B.set o (.row az 11 ((bu l).map (Ar.d e)))) i (.d (.v (.bool false))) dt)/\(dt=false->bu l=l)/\True:=by
  have h0:Ex E0 f1208.body.l (tN o az l.length B 0 .u false |> fun s=>{s with vars:=[.ls (.old o) az 11 0 l.length,.d (.v (.int .i64 0)),.d (.v (.int .i64 l.length)),.d (.fn 1070),.u,.u,.u,.u]}) (.norm,tN o az l.length B 1 .u false):=by
   refine Ex.of (n:=60) ?_;have w1:ak .i64 1=1:=wrap_i64 (by omega);unfold tN;simp -implicitDefEqProofs[f1208,w1]
  cases l with
  | nil =>
   refine⟨false,1,?_,fun _=>rfl,trivial⟩;have h1:=JQ o az 0 1 B (by omega) false;simp only[List.map_nil]at hself;have e1:(bu ([]:List (Ar α))).map (Ar.d e)=[]:=rfl;rw[e1,hself];exact Ex.seq h0 (Ex.block (Ex.leave h1 (by simp)))
  | cons a l =>
   obtain⟨dt,h1,h2⟩:=JR o az B ho (a::l) hn l.length 1 (by simp;omega) false;have e1:bu ((a::l).take 1)++(a::l).drop 1=a::l:=by simp[bu,tL,dC]
   rw[e1,hself]at h1;rw[e1]at h2;exact⟨dt,_,Ex.seq h0 (Ex.block h1),fun h=>(h2 h).2,trivial⟩
 obtain⟨N,hN⟩:=qI (E:=E0) (g:=1208) (F:=f1208) (args:=[.ls (.old o) az 11 0 l.length,.d (.v (.int .i64 0)),.d (.v (.int .i64 l.length)),.d (.fn 1070)]) (B:=B) (o:=.norm)
  (r:=if dt then(.d (.t []),some (B.set o (.row az 11 ((bu l).map (Ar.d e))))) else(.d (.t []),none)) rfl (k1208:E0.fn _=_) rfl hrun (by simp) (by
   have hm:=hset (B.set o (.row az 11 ((bu l).map (Ar.d e)))).length (.row az 11 ((bu l).map (Ar.d e))) (fun _=>rfl);cases dt<;>simp[finish,ma,show f1208.res=[] from rfl,show f1208.ref=true from rfl,fQ,oneOf,gZ,j6,kz,tN,FV.aA,hset,ae.aA,hO])
 refine⟨_,N,hN,?_⟩;cases dt with
 | true=>exact .inr rfl
 | false=>exact .inl ⟨rfl,hdt rfl⟩
end
end Fi.S
namespace Fi.S
open Go Fi
section
section
variable {α:Type}
theorem f_ (x y:Int):(fD x y=-1/\x<y)\/(fD x y=0/\x=y)\/(fD x y=1/\y<x):=by
 unfold fD
 by_cases h1:x<y
 ·exact .inl ⟨if_pos h1,h1⟩
 ·by_cases h2:y<x
  ·exact .inr (.inr ⟨by rw[if_neg h1,if_pos h2],h2⟩)
  ·exact .inr (.inl ⟨by rw[if_neg h1,if_neg h2],by omega⟩)
def jU (a b:Ar α):Prop:=a.f<b.f\/a.f=b.f/\(a.l<b.l\/a.l=b.l/\a.t<b.t)
def xR (a b:Ar α):Prop:=a.f=b.f/\a.l=b.l/\a.t=b.t
theorem Hf (a b:Ar α):iW a b<0↔jU a b:=by
 unfold iW Zc jU;rcases f_ a.f b.f with ⟨h,h'⟩|⟨h,h'⟩|⟨h,h'⟩<;>rcases f_ a.l b.l with ⟨k,k'⟩|⟨k,k'⟩|⟨k,k'⟩<;>rcases f_ a.t b.t with ⟨m,m'⟩|⟨m,m'⟩|⟨m,m'⟩<;>simp only[h,k,m]<;>simp<;>omega
theorem xS (a b:Ar α):iW a b=0↔xR a b:=by
 unfold iW Zc xR;rcases f_ a.f b.f with ⟨h,h'⟩|⟨h,h'⟩|⟨h,h'⟩<;>rcases f_ a.l b.l with ⟨k,k'⟩|⟨k,k'⟩|⟨k,k'⟩<;>rcases f_ a.t b.t with ⟨m,m'⟩|⟨m,m'⟩|⟨m,m'⟩<;>simp only[h,k,m]<;>simp<;>omega
theorem nG (a b:Ar α):jU a b\/xR a b\/jU b a:=by unfold jU xR;omega
theorem Ap {a b:Ar α}(h:xR a b):¬ jU a b:=by unfold jU xR at*;omega
theorem zy {a b:Ar α}(h:jU a b):¬ jU b a:=by unfold jU at*;omega
theorem BC {a b:Ar α}(h:jU a b):¬ xR a b:=by unfold jU xR at*;omega
theorem Vo {a b:Ar α}(h:jU a b):¬ xR b a:=by unfold jU xR at*;omega
theorem afB {a b c:Ar α}(h:¬ jU b a)(k:jU b c):jU a c:=by unfold jU at*;omega
theorem aaR {a b c:Ar α}(h:jU a b)(k:¬ jU c b):jU a c:=by unfold jU at*;omega
theorem afC {a b c:Ar α}(h:¬ jU b a)(k:¬ jU c b):¬ jU c a:=by unfold jU at*;omega
def jJ (pl:α->α->α)(a b:Ar α):Ar α:={a with x:=pl a.x b.x}
theorem Zh {pl:α->α->α}{a b c:Ar α}:xR (jJ pl a b) c↔xR a c:=Iff.rfl
instance (a b:Ar α):Decidable (jU a b):=by unfold jU;exact inferInstance
instance (a b:Ar α):Decidable (xR a b):=by unfold xR;exact inferInstance
def qN (x:Ar α):List (Ar α)->List (Ar α)
 | []=>[x]
 | y::r=>if jU x y then x::y::r else y::qN x r
def wV (pl:α->α->α)(a:Ar α):List (Ar α)->List (Ar α)
 | []=>[a]
 | b::r=>if xR a b then wV pl (jJ pl a b) r else a::wV pl b r
def mg (pl:α->α->α):List (Ar α)->List (Ar α)
 | []=>[]
 | a::r=>wV pl a r
def bY (pl:α->α->α)(x:Ar α):List (Ar α)->List (Ar α)
 | []=>[x]
 | y::r=>if jU y x then y::bY pl x r else if xR y x then jJ pl y x::r else x::y::r
abbrev A7 (l:List (Ar α)):Prop:=l.Pairwise fun a b=>¬ jU b a
theorem JS (pl:α->α->α):∀ (r:List (Ar α)) (a:Ar α),∃ y t,wV pl a r=y::t/\xR y a
 | [],a=>⟨a,[],rfl,rfl,rfl,rfl⟩
 | b::r,a=>by
  unfold wV;split
  ·obtain⟨y,t,h1,h2⟩:=JS pl r (jJ pl a b);exact⟨y,t,h1,h2⟩
  ·exact⟨a,_,rfl,rfl,rfl,rfl⟩
theorem xU {pl:α->α->α}{x:Ar α}(r:List (Ar α)){a:Ar α}(h:jU x a):bY pl x (wV pl a r)=x::wV pl a r:=by
 obtain⟨y,t,h1,h2⟩:=JS pl r a;have h3:jU x y:=by unfold jU xR at*;omega
 rw[h1,bY,if_neg (zy h3),if_neg (Vo h3)]
theorem Hg (pl:α->α->α)(x:Ar α):∀ (r:List (Ar α)) (a:Ar α),A7 (a::r)->¬ jU x a->wV pl a (qN x r)=bY pl x (wV pl a r)
 | [],a,_,h=>by
  simp only[qN,wV]
  by_cases he:xR a x
  ·rw[if_pos he,bY,if_neg (Ap he),if_pos he]
  ·have hlt:jU a x:=by
    rcases nG a x with h1|h1|h1
    ·exact h1
    ·exact absurd h1 he
    ·exact absurd h1 h
   rw[if_neg he,bY,if_pos hlt];rfl
 | b::r,a,hs,h=>by
  obtain⟨hab,hs2⟩:=List.pairwise_cons.1 hs;have aiO:=hab b (by simp);unfold qN
  by_cases hxb:jU x b
  ·rw[if_pos hxb];have afD:jU a b:=afB h hxb;have e1:wV pl a (b::r)=a::wV pl b r:=by rw[wV,if_neg (BC afD)]
   rw[e1]
   by_cases he:xR a x
   ·have e2:wV pl (jJ pl a x) (b::r)=jJ pl a x::wV pl b r:=by rw[wV,if_neg (fun h'=>BC afD (Zh.1 h'))]
    rw[wV,if_pos he,e2,bY,if_neg (Ap he),if_pos he]
   ·have hlt:jU a x:=by
     rcases nG a x with h1|h1|h1
     ·exact h1
     ·exact absurd h1 he
     ·exact absurd h1 h
    have e2:wV pl x (b::r)=x::wV pl b r:=by rw[wV,if_neg (BC hxb)]
    rw[wV,if_neg he,e2,bY,if_pos hlt,xU r hxb]
  ·rw[if_neg hxb]
   by_cases he:xR a b
   ·have hs3:A7 (jJ pl a b::r):=List.pairwise_cons.2 ⟨fun c hc=>hab c (by simp[hc]),(List.pairwise_cons.1 hs2).2⟩;rw[wV,if_pos he,Hg pl x r (jJ pl a b) hs3 h,wV,if_pos he]
   ·have hlt:jU a b:=by
     rcases nG a b with h1|h1|h1
     ·exact h1
     ·exact absurd h1 he
     ·exact absurd h1 aiO
    rw[wV,if_neg he,Hg pl x r b hs2 hxb,wV,if_neg he,bY,if_pos (aaR hlt hxb)]
theorem acW (pl:α->α->α)(x:Ar α):∀ (s:List (Ar α)),A7 s->mg pl (qN x s)=bY pl x (mg pl s)
 | [],_=>rfl
 | a::r,hs=>by
  unfold qN
  by_cases h:jU x a
  ·rw[if_pos h]
   change wV pl x (a::r)=bY pl x (wV pl a r)
   rw[xU r h,wV,if_neg (BC h)]
  ·rw[if_neg h];exact Hg pl x r a hs h
theorem JU {x:Ar α}:∀ {s:List (Ar α)} {y:Ar α},y ∈ qN x s->y=x\/y ∈ s
 | [],y,h=>by simp[qN]at h;exact .inl h
 | a::r,y,h=>by
  unfold qN at h;split at h
  ·simpa using h
  ·rcases List.mem_cons.1 h with h|h
   ·exact .inr (by simp[h])
   ·rcases JU h with h|h
    ·exact .inl h
    ·exact .inr (by simp[h])
theorem Dx (x:Ar α):∀ {s:List (Ar α)},A7 s->A7 (qN x s)
 | [],_=>by simp[qN,A7]
 | a::r,hs=>by
  obtain⟨h1,h2⟩:=List.pairwise_cons.1 hs;unfold qN;split
  ·rename_i h;refine List.pairwise_cons.2 ⟨fun c hc => ?_,hs⟩;rcases List.mem_cons.1 hc with rfl|hc
   ·exact zy h
   ·exact zy (aaR h (h1 c hc))
  ·rename_i h;refine List.pairwise_cons.2 ⟨fun c hc => ?_,Dx x h2⟩;rcases JU hc with rfl|hc
   ·exact h
   ·exact h1 c hc
theorem Dy (x:Ar α)(v:List (Ar α))(hv:∀ y,v.head?=some y->jU x y):∀ (u:List (Ar α)),(∀ y ∈ u,¬ jU x y)->qN x (u++v)=u++x::v
 | [],_=>by
  cases v with
  | nil=>rfl
  | cons y r=>simp only[List.nil_append,qN];rw[if_pos (hv y rfl)]
 | a::u,h=>by
  rw[List.cons_append,qN,if_neg (h a (by simp)),Dy x v hv u (fun y hy=>h y (by simp[hy]))];rfl
theorem Aq (x:Ar α)(p:List (Ar α)):∀ j,j<=p.length->(∀ i y,dC x p j<=i->i<j->p[i]?=some y->jU x y)/\(∀ y,0<dC x p j->p[dC x p j-1]?=some y->¬ jU x y)
 | 0,_=>⟨fun i y h1 h2=>by omega,fun y h=>by simp[dC]at h⟩
 | j+1,hj=>by
  have hy:p[j]?=some p[j]:=List.getElem?_eq_getElem (by omega);obtain⟨h1,h2⟩:=Aq x p j (by omega)
  by_cases hlt:iW x p[j]<0
  ·have hp:dC x p (j+1)=dC x p j:=by simp only[dC,hy,if_pos hlt]
   rw[hp];refine⟨fun i y g1 g2 g3 => ?_,h2⟩;rcases Nat.lt_or_ge i j with h|h
   ·exact h1 i y g1 h g3
   ·obtain rfl:i=j:=by omega
    rw[hy]at g3;cases g3;exact(Hf _ _).1 hlt
  ·have hp:dC x p (j+1)=j+1:=by simp only[dC,hy,if_neg hlt]
   rw[hp];refine⟨fun i y g1 g2=>by omega,fun y _ g => ?_⟩;simp only[Nat.add_sub_cancel]at g;rw[hy]at g;cases g;exact fun h=>hlt ((Hf _ _).2 h)
theorem Zi (x:Ar α){p:List (Ar α)}(hs:A7 p):tL x p=qN x p:=by
 obtain⟨h1,h2⟩:=Aq x p p.length (Nat.le_refl _);have hle:=zx x p p.length;generalize hk:dC x p p.length=k at*;have:=Dy x (p.drop k) (fun y hy=>by
  rw[List.head?_drop]at hy;exact h1 k y (Nat.le_refl _) (aW hy) hy) (p.take k) (fun y hy=>by
  obtain⟨i,hi⟩:=List.mem_iff_getElem?.1 hy;rw[List.getElem?_take]at hi;split at hi
  ·rename_i hik;have hlast:p[k-1]?=some p[k-1]:=List.getElem?_eq_getElem (by omega);have h3:=h2 p[k-1] (by omega) hlast;rcases Nat.lt_or_ge i (k-1) with h|h
   ·have hii:=(List.getElem?_eq_some_iff.1 hi)
    have h4:=List.pairwise_iff_getElem.1 hs i (k-1) hii.1 (by omega) h;rw[hii.2]at h4;exact afC h4 h3
   ·obtain rfl:i=k-1:=by omega
    rw[hlast]at hi;cases hi;exact h3
  ·cases hi)
 rw[List.take_append_drop]at this;unfold tL;rw[hk,this]
theorem Dz:∀ (l p:List (Ar α)),A7 p->l.foldl (fun p x=>tL x p) p=l.foldl (fun p x=>qN x p) p/\A7 (l.foldl (fun p x=>qN x p) p)
 | [],p,h=>⟨rfl,h⟩
 | x::l,p,h=>by
  rw[List.foldl_cons,List.foldl_cons,Zi x h];exact Dz l _ (Dx x h)
theorem Vp (pl:α->α->α):∀ (l p:List (Ar α)),A7 p->mg pl (l.foldl (fun p x=>qN x p) p)=l.foldl (fun p x=>bY pl x p) (mg pl p)
 | [],p,h=>rfl
 | x::l,p,h=>by
  rw[List.foldl_cons,List.foldl_cons,Vp pl l _ (Dx x h),acW pl x p h]
def dS (pl:α->α->α)(l:List (Ar α)):List (Ar α):=l.foldl (fun p x=>bY pl x p) []
theorem Zj (pl:α->α->α)(l:List (Ar α)):mg pl (bu l)=dS pl l:=by
 unfold bu dS;rw[(Dz l [] (by simp[A7])).1];exact Vp pl l [] (by simp[A7])
def kK (pl:α->α->α)(out:List (Ar α))(x:Ar α):List (Ar α) :=
 match out.getLast? with
 | some y=>if xR y x then out.dropLast++[jJ pl y x] else out++[x]
 | none=>[x]
theorem lJ (pl:α->α->α)(p:List (Ar α))(y x:Ar α):kK pl (p++[y]) x=if xR y x then p++[jJ pl y x] else p++[y]++[x]:=by
 unfold kK;simp
theorem tO (pl:α->α->α):∀ (r p:List (Ar α)) (a:Ar α),r.foldl (kK pl) (p++[a])=p++wV pl a r
 | [],p,a=>rfl
 | b::r,p,a=>by
  rw[List.foldl_cons,lJ,wV];split
  ·exact tO pl r p _
  ·rw[tO pl r (p++[a]) b,List.append_assoc];rfl
theorem Zk (pl:α->α->α)(s:List (Ar α)):s.foldl (kK pl) []=mg pl s:=by
 cases s with
 | nil=>rfl
 | cons a r =>
  rw[List.foldl_cons];exact tO pl r [] a
end
end
section
variable {α:Type}
structure MF (kk:Int)(ps:List Int)(e:α->W)(pl:α->α->α)(z:W)(fJ:α->Bool)(G:Nat->α->Prop)(m:Nat):Prop where
 mono:∀ n x,G n x->G (n+1) x
 zero:Ca E1 26 [.d (aP kk ps)] (.d z.d,none)
 pz:∀ x,G 1 x->Ca E1 14 [.d (aP kk ps),.d (e x).d,.d z.d] (.d (e x).d,none)
 tk:∀ x,G 1 x->Ca E1 53 [.d (aP kk ps),.d (e x).d] (.d (e x).d,none)
 p1:∀ n x y,n<m->G n x->G 1 y->Ca E1 14 [.d (aP kk ps),.d (e x).d,.d (e y).d] (.d (e (pl x y)).d,none)
 p2:∀ n x y,n<m->G n x->G 1 y->Ca E1 19 [.d (aP kk ps),.d (e x).d,.d (e y).d] (.d (e (pl x y)).d,none)
 pg:∀ n x y,n<m->G n x->G 1 y->G (n+1) (pl x y)
 z1:∀ n x,n<=m->G n x->Ca E1 1104 [.d (aP kk ps),.d (e x).d] (.d (.v (.bool (fJ x))),none)
 z2:∀ n x,n<=m->G n x->Ca E1 1126 [.d (aP kk ps),.d (e x).d] (.d (.v (.bool (fJ x))),none)
theorem MF.up {kk:Int}{ps:List Int}{e:α->W}{pl:α->α->α}{z:W}{fJ:α->Bool}{G:Nat->α->Prop}{m:Nat}(h:MF kk ps e pl z fJ G m){x:α}(hx:G 1 x):∀ n,G (n+1) x
 | 0=>hx
 | n+1=>h.mono _ _ (h.up hx n)
def zz (x:Ar α)(aq:List (Ar α)):Nat:=(aq.findIdx? fun y => !decide (jU y x)).getD aq.length
theorem Zl (x:Ar α)(aq:List (Ar α)):zz x aq<=aq.length:=by
 unfold zz;cases h:aq.findIdx? (fun y => !decide (jU y x)) with
 | none=>exact Nat.le_refl _
 | some k =>
  rw[List.findIdx?_eq_some_iff_getElem]at h;exact Nat.le_of_lt h.1
theorem FW (x a:Ar α)(aq:List (Ar α)):zz x (a::aq)=if jU a x then zz x aq+1 else 0:=by
 unfold zz;rw[List.findIdx?_cons]
 by_cases h:jU a x
 ·simp only[h,decide_true,Bool.not_true,Bool.false_eq_true,if_false,if_true];cases aq.findIdx? (fun y => !decide (jU y x))<;>simp
 ·simp[h]
theorem DC (pl:α->α->α)(x:Ar α):∀ aq:List (Ar α),(∀ y,aq[zz x aq]?=some y->¬ xR y x)->bY pl x aq=aq.take (zz x aq)++x::aq.drop (zz x aq)
 | [],_=>rfl
 | a::aq,h=>by
  rw[FW]at h ⊢
  by_cases hl:jU a x
  ·rw[if_pos hl]at h ⊢;rw[bY,if_pos hl,DC pl x aq (fun y hy=>h y (by simpa using hy))];rfl
  ·rw[if_neg hl]at h ⊢;rw[bY,if_neg hl,if_neg (h a rfl)];rfl
theorem Av (pl:α->α->α)(x y:Ar α):∀ aq:List (Ar α),aq[zz x aq]?=some y->xR y x->bY pl x aq=aq.set (zz x aq) (jJ pl y x)
 | [],h,_=>by simp at h
 | a::aq,h,he=>by
  rw[FW]at h ⊢
  by_cases hl:jU a x
  ·rw[if_pos hl]at h ⊢;rw[bY,if_pos hl,Av pl x y aq (by simpa using h) he];rfl
  ·rw[if_neg hl]at h ⊢;simp at h;subst h;rw[bY,if_neg hl,if_pos he];rfl
theorem wh (pl:α->α->α)(x:Ar α):∀ aq:List (Ar α),(bY pl x aq).length<=aq.length+1
 | []=>by simp[bY]
 | a::aq=>by
  unfold bY;have:=wh pl x aq;split
  ·simp;omega
  ·split<;>simp
theorem wo (pl:α->α->α)(x:Ar α)(P Q:Ar α->Prop)(hx:Q x)(hPQ:∀ y,P y->Q y)(hpl:∀ y,P y->Q (jJ pl y x)):∀ aq:List (Ar α),(∀ y ∈ aq,P y)->∀ y ∈ bY pl x aq,Q y
 | [],_,y,hy=>by simp[bY]at hy;subst hy;exact hx
 | a::aq,h,y,hy=>by
  unfold bY at hy;split at hy
  ·rcases List.mem_cons.1 hy with rfl|hy
   ·exact hPQ _ (h _ (by simp))
   ·exact wo pl x P Q hx hPQ hpl aq (fun y hy=>h y (by simp[hy])) y hy
  ·split at hy
   ·rcases List.mem_cons.1 hy with rfl|hy
    ·exact hpl _ (h _ (by simp))
    ·exact hPQ _ (h _ (by simp[hy]))
   ·rcases List.mem_cons.1 hy with rfl|hy
    ·exact hx
    ·exact hPQ _ (h _ hy)
theorem MG (pl:α->α->α)(x:Ar α)(P Q:Ar α->Prop)(hx:Q x)(hPQ:∀ y,P y->Q y)(hpl:∀ y,P y->Q (jJ pl y x))(aq:List (Ar α))(h:∀ y ∈ aq,P y):∀ y ∈ kK pl aq x,Q y:=by
 intro y hy;rcases List.eq_nil_or_concat aq with rfl|⟨q,a,rfl⟩
 ·simp[kK]at hy;subst hy;exact hx
 ·rw[List.concat_eq_append]at*;rw[lJ]at hy;split at hy
  ·rcases List.mem_append.1 hy with hy|hy
   ·exact hPQ _ (h _ (by simp[hy]))
   ·simp at hy;subst hy;exact hpl _ (h _ (by simp))
  ·rcases List.mem_append.1 hy with hy|hy
   ·exact hPQ _ (h _ hy)
   ·simp at hy;subst hy;exact hx
theorem MH (pl:α->α->α)(x:Ar α)(aq:List (Ar α)):(kK pl aq x).length<=aq.length+1:=by
 rcases List.eq_nil_or_concat aq with rfl|⟨q,a,rfl⟩
 ·simp[kK]
 ·rw[List.concat_eq_append,lJ];split<;>simp
theorem Vq {x:Ar α}{p:List (Ar α)}{y:Ar α}(h:y ∈ tL x p):y=x\/y ∈ p:=by
 unfold tL at h;rcases List.mem_append.1 h with h|h
 ·exact .inr (List.mem_of_mem_take h)
 ·rcases List.mem_cons.1 h with h|h
  ·exact .inl h
  ·exact .inr (List.mem_of_mem_drop h)
theorem Aw:∀ (l p:List (Ar α)) {y:Ar α},y ∈ l.foldl (fun p x=>tL x p) p->y ∈ p\/y ∈ l
 | [],p,y,h=>.inl h
 | x::l,p,y,h=>by
  rw[List.foldl_cons]at h;rcases Aw l _ h with h|h
  ·rcases Vq h with h|h
   ·exact .inr (by simp[h])
   ·exact .inl h
  ·exact .inr (by simp[h])
theorem JV {l:List (Ar α)}{y:Ar α}(h:y ∈ bu l):y ∈ l:=by
 rcases Aw l [] h with h|h
 ·simp at h
 ·exact h
end
end Fi.S
noncomputable section
namespace Fi.S
open Go Fi
set_option maxHeartbeats 8000000
set_option maxRecDepth 10000
theorem Qu {k:Int}(hk:single k=true){S T M M':Nat}(hS:1<=S)(hT:1<=T){x y:Sv}(hx:x.of k S M)(hy:y.of k T M'):(eu k x y).of k (S+T+1) (M+M'):=by
 rcases a_ hk with rfl|rfl|rfl|rfl|rfl
 ·obtain⟨a,rfl,h1⟩:=RS hx;obtain⟨b,rfl,h2⟩:=RS hy;refine⟨.inl rfl,?_⟩;have:=qm a b;show qz (a+b)<=_;omega
 ·obtain⟨a,n,rfl,h1⟩:=RU hx;obtain⟨b,m,rfl,h2⟩:=RU hy;show Sv.of 2 _ _ (if vz b m a n then .c b m else .c a n);split
  ·exact hy
  ·exact hx
 ·obtain⟨a,rfl,h1⟩:=RV hx;obtain⟨b,rfl,h2⟩:=RV hy;show Sv.of 3 _ _ (if a<b then .q b else .q a);split
  ·exact Sv.of.mono hy (by omega) (by omega)
  ·exact Sv.of.mono hx (by omega) (by omega)
 ·obtain⟨a,rfl,h1⟩:=RX hx;obtain⟨b,rfl,h2⟩:=RX hy;exact⟨rfl,Y5 a b⟩
 ·obtain⟨a,rfl,h1,h2⟩:=RY hx;obtain⟨b,rfl,h3,h4⟩:=RY hy;exact⟨rfl,pF hS hT h1 h3,Nat.le_trans (Ah a b) (Nat.add_le_add h2 h4)⟩
theorem DD {S T M M':Nat}(hS:1<=S)(hT:1<=T){ps:List Int}(hs:∀ k ∈ ps,single k=true){xs ys:List Sv}(hx:jS S M ps xs)(hy:jS T M' ps ys):jS (S+T+1) (M+M') ps (gV ps xs ys):=by
 refine⟨by simp[gV,hx.1,hy.1],fun i k z hk hz => ?_⟩;obtain⟨k',x,y,h1,h2,h3,rfl⟩:=tF hz;rw[hk]at h1;cases h1;exact Qu (hs k (List.mem_of_getElem? hk)) hS hT (hx.2 i k x hk h2) (hy.2 i k y hk h3)
def aS (kk:Int)(ps:List Int):List Sv:=(gW kk ps).map eP
def bS (kk:Int)(ps:List Int):List Sv:=(gW kk ps).map uV
def A8 (kk:Int)(ps:List Int)(xs:List Sv):Bool:=(bA kk xs).eq (bA kk (aS kk ps))
def om (kk:Int)(ps:List Int)(n:Nat)(xs:List Sv):Prop:=1<=n/\jS (4*n-1) (8*n) (gW kk ps) xs
theorem Hl {kk:Int}{ps:List Int}(hv:aH kk ps=true){S M:Nat}{xs:List Sv}(hS:S<=1000)(hx:jS S M (gW kk ps) xs) :
  Ca E1 1104 [.d (aP kk ps),.d (bA kk xs).d] (.d (.v (.bool (A8 kk ps xs))),none)/\Ca E1 1126 [.d (aP kk ps),.d (bA kk xs).d] (.d (.v (.bool (A8 kk ps xs))),none):=by
 have ok1:=vC hv hS hx;have ok0:(bA kk (aS kk ps)).OK:=vC hv (S:=1) (M:=1) (by omega) (mY (by omega) (bI hv));obtain⟨K,hK,a1,a2,a3,a4⟩:=((Ca.dW (jL _ ok1 _ ok0)).j ((Ca.dW (oZ _ ok1 _ ok0)).j ((zw hv).j ((eQ hv).any)))).at 0;unfold A8;rw[show(gW kk ps).map eP=aS kk ps from rfl]at a3 a4;generalize (bA kk xs).eq (bA kk (aS kk ps))=b at*;obtain⟨xs',YY,YZ,xc,xb,xu,xp,xq,ex⟩:=(bA kk xs).aF;obtain⟨zs,yP,yQ,zc,zb,zu,zp,zq,ez⟩:=(bA kk (aS kk ps)).aF;simp only[ex,ez]at*;clear ok1 ok0 hx ex ez hv;unfold wD aP at*;generalize LK .i64 ps=l9 at*;refine⟨?_,?_⟩
 ·refine Ca.bD (n:=K+100) ?_;rw[av rfl (k1104:E1.fn _=_) rfl];simp -implicitDefEqProofs[f1104,a1,a3]
 ·refine Ca.bD (n:=K+100) ?_;rw[av rfl (k1126:E1.fn _=_) rfl];simp -implicitDefEqProofs[f1126,a2,a4]
theorem acY {kk:Int}{ps:List Int}(hv:aH kk ps=true):MF kk ps (bA kk) (gV (gW kk ps)) (bA kk (aS kk ps)) (A8 kk ps) (om kk ps) 20 where
 mono n x h:=⟨by omega,h.2.mono (by omega) (by omega)⟩
 zero:=zw hv
 pz x h:=by
  have h3:jS 3 8 (gW kk ps) x:=h.2;have:=BB hv (by omega) (by omega) h3 (mY (M:=8) (by omega) (bI hv));rw[qL (S:=3) (M:=8) (by omega) (bI hv) h3]at this;exact this
 tk x h:=qM hv (by omega) (by omega) h.2
 p1 n x y hn hx hy:=by
  have h1:=hx.1;refine BB hv (S:=75) (M:=152) (by omega) (by omega) (hx.2.mono (by omega) (by omega)) (hy.2.mono (by omega) (by omega))
 p2 n x y hn hx hy:=by
  have h1:=hx.1;refine xP hv (S:=75) (M:=152) (by omega) (by omega) (hx.2.mono (by omega) (by omega)) (hy.2.mono (by omega) (by omega))
 pg n x y hn hx hy:=by
  have h1:=hx.1;exact⟨by omega,(DD (by omega) (by omega) (bI hv) hx.2 hy.2).mono (by omega) (by omega)⟩
 z1 n x hn hx:=(Hl hv (by omega) hx.2).1
 z2 n x hn hx:=(Hl hv (by omega) hx.2).2
theorem DF {kk:Int}{ps:List Int}(hv:aH kk ps=true):om kk ps 1 (aS kk ps):=⟨by omega,mY (by omega) (bI hv)⟩
theorem Qv {kk:Int}{ps:List Int}(hv:aH kk ps=true):om kk ps 1 (bS kk ps):=⟨by omega,JL (by omega) (by omega) (bI hv)⟩
theorem MI {kk:Int}{ps:List Int}(hv:aH kk ps=true){w:W}(ht:w.nA)(hl:w.bC=true):∃ x,om kk ps 1 x/\(if bO kk ps w then w else bA kk (aS kk ps))=bA kk x/\Ca E1 53 [.d (aP kk ps),.d w.d] (.d (bA kk x).d,none):=by
 by_cases hc:bO kk ps w=true
 ·obtain⟨x,hx,rfl⟩:=Dw hv ht hl hc;refine⟨x,⟨by omega,hx⟩,if_pos hc,qM hv (by omega) (by omega) hx⟩
 ·refine⟨aS kk ps,DF hv,if_neg hc,?_⟩;simp only[Bool.not_eq_true]at hc;exact Zb hv (o9 w ht hl) hc
end Fi.S
namespace Fi.S
open Go Fi
set_option maxHeartbeats 8000000
section
variable {α:Type} {e:α->W}
theorem Hm (o az:Nat)(B:List ae)(l:List (Ar α))(hB:B[o]?=some (.row az 11 (l.map (Ar.d e))))(hO:∀ n,B.map (ae.aA n)=B)(hn:l.length<20) :
  ∃ r N,(∀ m,CL E0 (N+m) 1138 [.ls (.old o) az 11 0 l.length,.d (.v (.int .i64 l.length)),.d (.fn 1070)] B=some r)/\sorted e o az B l r:=by
 obtain⟨r,N,t,hs⟩:=acV o az B l hB hO (by omega);refine⟨r,N+200,fun m => ?_,hs⟩;have h1:¬ (20:Int)<=(l.length:Int):=by omega
 have h2:¬ (20:Int)<(l.length:Int):=by omega
 have h1':(l.length:Int)<20:=by omega
 have h2':(l.length:Int)<=20:=by omega
 have hne:N+200+m=(N+m)+200:=by omega
 have hB0:B≠[]:=by intro h;rw[h]at hB;cases hB
 rw[hne,av rfl (k1138:E0.fn _=_) rfl];replace t:=fun k=>eF (t 0) (show N+0<=N+m+k by omega)
 rcases hs with ⟨rfl,_⟩|rfl
 ·generalize l.length=n at*;simp -implicitDefEqProofs[f1138,aC,t,hO,h1,h2,h1',h2',FV.aA,FV.aR,gZ]
 ·have hO1:∀ k,(B.set o (.row az 11 ((bu l).map (Ar.d e)))).map (ae.aA k)=B.set o (.row az 11 ((bu l).map (Ar.d e))):=fun k=>by rw[List.map_set,hO];rfl
  have tk:(B.set o (.row az 11 ((bu l).map (Ar.d e)))).take B.length=B.set o (.row az 11 ((bu l).map (Ar.d e))):=List.take_of_length_le (by simp);have dp:(B.set o (.row az 11 ((bu l).map (Ar.d e)))).drop B.length=[]:=List.drop_of_length_le (by simp);generalize B.set o (.row az 11 ((bu l).map (Ar.d e)))=B1,l.length=n at*;simp -implicitDefEqProofs[f1138,aC,t,hB0,hO,hO1,tk,dp,h1,h2,h1',h2',FV.aA,FV.aR,gZ]
theorem Qw (o az:Nat)(B:List ae)(l:List (Ar α))(hB:B[o]?=some (.row az 11 (l.map (Ar.d e))))(hO:∀ n,B.map (ae.aA n)=B)(hn:l.length<20) :
  ∃ r N,(∀ m,CL E0 (N+m) 1101 [.ls (.old o) az 11 0 l.length,.d (.fn 1070)] B=some r)/\sorted e o az B l r:=by
 obtain⟨r,N,t,hs⟩:=Hm o az B l hB hO hn;refine⟨r,N+200,fun m => ?_,hs⟩;have hne:N+200+m=(N+m)+200:=by omega
 have hB0:B≠[]:=by intro h;rw[h]at hB;cases hB
 rw[hne,av rfl (k1101:E0.fn _=_) rfl];replace t:=fun k=>eF (t 0) (show N+0<=N+m+k by omega)
 rcases hs with ⟨rfl,_⟩|rfl
 ·generalize l.length=n at*;simp -implicitDefEqProofs[f1101,t,hO,FV.aA,FV.aR,gZ]
 ·have hO1:∀ k,(B.set o (.row az 11 ((bu l).map (Ar.d e)))).map (ae.aA k)=B.set o (.row az 11 ((bu l).map (Ar.d e))):=fun k=>by rw[List.map_set,hO];rfl
  have tk:(B.set o (.row az 11 ((bu l).map (Ar.d e)))).take B.length=B.set o (.row az 11 ((bu l).map (Ar.d e))):=List.take_of_length_le (by simp);have dp:(B.set o (.row az 11 ((bu l).map (Ar.d e)))).drop B.length=[]:=List.drop_of_length_le (by simp);generalize B.set o (.row az 11 ((bu l).map (Ar.d e)))=B1,l.length=n at*;simp -implicitDefEqProofs[f1101,t,hB0,hO,hO1,tk,dp,FV.aA,FV.aR,gZ]
end
end Fi.S
