import Derived.Test.YtckkhcnfdmlabaaGreatDoorCP
set_option linter.unusedVariables false
set_option linter.unusedSimpArgs false
noncomputable section
namespace Fi
open Go
section
section
variable {E:Env} {α β:Type} {b:aH}
theorem Ex.XP (l:List α)(p:α->Bool)(S:Nat->St)(R F:Out × St)(hR:R.1≠.norm)(hF:F.1≠.norm)
  (round:∀ (j:Nat) (a:α),l[j]?=some a->Ex E b (S j) (if p a then(.norm,S (j+1)) else F)) (last:Ex E b (S l.length) R):Ex E (.loop b) (S 0) (if l.all p then R else F):=by
 have key:∀ (d j:Nat),j+d=l.length->Ex E (.loop b) (S j) (if (l.drop j).all p then R else F):=by
  intro d
  induction d with
  | zero =>
   intro j hj;obtain rfl:j=l.length:=by omega
   rw[List.drop_length];exact Ex.leave last hR
  | succ d ih =>
   intro j hj;have hlt:j<l.length:=by omega
   have hr:=round j _ (List.getElem?_eq_getElem hlt);rw[List.drop_eq_getElem_cons hlt,List.all_cons];cases hp:p l[j] with
   | false =>
    rw[hp]at hr;exact Ex.leave hr hF
   | true =>
    rw[hp]at hr;rw[Bool.true_and];exact Ex.next hr (ih (j+1) (by omega))
 exact key l.length 0 (by omega)
theorem Ex.BN (l:List α)(p:α->Bool)(S:Nat->St)(R:Out × St)(F:Nat->Out × St)(hR:R.1≠.norm)(hF:∀ j,(F j).1≠.norm)
  (round:∀ (j:Nat) (a:α),l[j]?=some a->Ex E b (S j) (if p a then F j else(.norm,S (j+1)))) (last:Ex E b (S l.length) R):Ex E (.loop b) (S 0) (match l.findIdx? p with
   | some j=>F j
   | none=>R):=by
 have key:∀ (d j:Nat),j+d=l.length->(∀ i a,i<j->l[i]?=some a->p a=false)->Ex E (.loop b) (S j) (match l.findIdx? p with
   | some j=>F j
   | none=>R):=by
  intro d
  induction d with
  | zero =>
   intro j hj hno;obtain rfl:j=l.length:=by omega
   have:l.findIdx? p=none:=by
    rw[List.findIdx?_eq_none_iff];intro x hx;obtain⟨i,hi⟩:=List.mem_iff_getElem?.1 hx;exact hno i x (bH hi) hi
   rw[this];exact Ex.leave last hR
  | succ d ih =>
   intro j hj hno;have hlt:j<l.length:=by omega
   have hr:=round j _ (List.getElem?_eq_getElem hlt);cases hp:p l[j] with
   | true =>
    rw[hp]at hr;have:l.findIdx? p=some j:=by
     rw[List.findIdx?_eq_some_iff_getElem];exact⟨hlt,hp,fun i hi=>by rw[hno i _ hi (List.getElem?_eq_getElem (by omega))];simp⟩
    rw[this];exact Ex.leave hr (hF j)
   | false =>
    rw[hp]at hr;refine Ex.next hr (ih (j+1) (by omega) (fun i a hi ha => ?_))
    rcases Nat.lt_or_ge i j with h|h
    ·exact hno i a h ha
    ·obtain rfl:i=j:=by omega
     rw[List.getElem?_eq_getElem hlt]at ha;cases ha;exact hp
 exact key l.length 0 (by omega) (fun i a hi=>by omega)
theorem Ex.fold (l:List α)(f:β->α->β)(z:β)(I:Nat->β->St->Prop)(Q:β->Out × St->Prop)
  (round:∀ (j:Nat) (a:α) (st:St),l[j]?=some a->I j ((l.take j).foldl f z) st->∃ st',Ex E b st (.norm,st')/\I (j+1) (f ((l.take j).foldl f z) a) st')
  (last:∀ st,I l.length (l.foldl f z) st->∃ r,Ex E b st r/\r.1≠.norm/\Q (l.foldl f z) r) {st:St} (h0:I 0 z st):∃ r,Ex E (.loop b) st r/\Q (l.foldl f z) r:=by
 have key:∀ (d j:Nat) (st:St),j+d=l.length->I j ((l.take j).foldl f z) st->∃ r,Ex E (.loop b) st r/\Q (l.foldl f z) r:=by
  intro d
  induction d with
  | zero =>
   intro j st hj hI;obtain rfl:j=l.length:=by omega
   rw[List.take_length]at hI;obtain⟨r,h1,h2,h3⟩:=last st hI;exact⟨r,Ex.leave h1 h2,h3⟩
  | succ d ih =>
   intro j st hj hI;have hlt:j<l.length:=by omega
   obtain⟨st',h1,h2⟩:=round j _ st (List.getElem?_eq_getElem hlt) hI;have h3:(l.take (j+1)).foldl f z=f ((l.take j).foldl f z) l[j]:=by rw[List.take_succ_eq_append_getElem hlt,List.foldl_append];rfl
   rw[<-h3]at h2;obtain⟨r,h4,h5⟩:=ih (j+1) st' (by omega) h2;exact⟨r,h1.next h4,h5⟩
 exact key l.length 0 st (by omega) (by simpa using h0)
end
end
end Fi
namespace Fi.S
open Go Fi
set_option maxHeartbeats 8000000
section
structure Ar (α:Type) where
 f:Int
 l:Int
 t:Int
 x:α
def BO (f l t:Int)(s:Bool)(l1 l2:List D)(c:Int)(b:Bool)(u:Int)(p ps:List D):D:=.a [.v (.int .i64 f),.v (.int .i64 l),.v (.int .i64 t),.v (.bool s),.s 1 l1,.s 1 l2,.v (.int .i64 c),.v (.bool b),.v (.int .u64 u),.s 6 p,.s 8 ps]
variable {α:Type}
def Ar.d (e:α->W)(a:Ar α):D:=.a (.v (.int .i64 a.f)::.v (.int .i64 a.l)::.v (.int .i64 a.t)::(e a.x).d.cells)
theorem Ar.jO (e:α->W)(a:Ar α):∃ s l1 l2 c b u p ps,(e a.x).d=wD s l1 l2 c b u p ps/\a.d e=BO a.f a.l a.t s l1 l2 c b u p ps:=by
 obtain⟨s,l1,l2,c,b,u,p,ps,h⟩:=(e a.x).aM;exact⟨s,l1,l2,c,b,u,p,ps,h,by unfold Ar.d BO;rw[h];rfl⟩
def or3 (x y z:Int):Int:=if x=0 then if y=0 then z else y else x
def mP (a b:Ar α):Int:=or3 (gX a.f b.f) (gX a.l b.l) (gX a.t b.t)
theorem abl (n:Nat)(x y z:Int):CL E0 (n+200) 1109 [.d (.s 1 [.v (.int .i64 x),.v (.int .i64 y),.v (.int .i64 z)])] []=some (.d (.v (.int .i64 (or3 x y z))),none):=by
 have w1:ah .i64 1=1:=wrap_i64 (by omega);have w2:ah .i64 2=2:=wrap_i64 (by omega);have w3:ah .i64 3=3:=wrap_i64 (by omega);rw[ak rfl (k1109:E0.fn _=_) rfl];unfold or3
 by_cases h1:x=0
 ·subst h1
  by_cases h2:y=0
  ·subst h2
   by_cases h3:z=0
   ·subst h3;simp -implicitDefEqProofs[f1109,aC,w1,w2,w3]
   ·have e3:(z != 0)=true:=by simpa using h3
    simp -implicitDefEqProofs[f1109,aC,w1,w2,w3,e3]
  ·have e2:(y != 0)=true:=by simpa using h2
   simp -implicitDefEqProofs[f1109,aC,w1,w2,w3,e2,h2]
 ·have e1:(x != 0)=true:=by simpa using h1
  simp -implicitDefEqProofs[f1109,aC,w1,w2,w3,e1,h1]
theorem wy (e:α->W)(n:Nat)(a b:Ar α):CL E0 (n+400) 1070 [.d (a.d e),.d (b.d e)] []=some (.d (.v (.int .i64 (mP a b))),none):=by
 obtain⟨s,l1,l2,c,i,u,p,ps,_,ea⟩:=a.jO e;obtain⟨s',l1',l2',c',i',u',p',ps',_,eb⟩:=b.jO e;rw[ea,eb];have c1:=fun m=>nM m a.f b.f
 have c2:=fun m=>nM m a.l b.l
 have c3:=fun m=>nM m a.t b.t
 have t:=fun m=>abl m (gX a.f b.f) (gX a.l b.l) (gX a.t b.t)
 unfold mP;generalize gX a.f b.f=x,gX a.l b.l=y,gX a.t b.t=z at*;generalize or3 x y z=r at*;rw[ak rfl (k1070:E0.fn _=_) rfl];unfold BO;simp -implicitDefEqProofs[f1070,c1,c2,c3,t]
end
section
variable {α:Type} {e:α->W}
def inM:aH:=f1208.body.r.bl.lp.r.l.bl.r.bl.lp
def Lx (o az n:Nat)(B:List ae)(i j:Nat)(t:FV)(dt:Bool):St :=
 {vars:=[.ls (.old o) az 11 0 n,.d (.v (.int .i64 0)),.d (.v (.int .i64 n)),.d (.fn 1070),.d (.v (.int .i64 i)),.d (.v (.int .i64 j)),.u,t],base:=B,loc:=[],aP:=dt}
theorem XQ (o az n:Nat)(B:List ae)(i k:Nat)(dt:Bool)(es:List D)(x y:Ar α)(hB:B[o]?=some (.row az 11 es))(hn:es.length=n)(hn2:n<=1000000)(hx:es[k+1]?=some (x.d e))(hy:es[k]?=some (y.d e))(hlt:mP x y<0) :
  Ex E0 inM (Lx o az n B i (k+1) .u dt) (.norm,Lx o az n (B.set o (.row az 11 ((es.set (k+1) (y.d e)).set k (x.d e)))) i k .u true):=by
 have t:=fun m=>wy e m x y
 have hol:o<B.length:=(bH hB)
 have hkl:k+1<es.length:=(bH hx)
 have hkn:(k:Int)+1<(n:Int):=by omega
 have hkn2:(k:Int)<(n:Int):=by omega
 have hk0:(0:Int)<=(k:Int):=by omega
 have hk1:(0:Int)<=(k:Int)+1:=by omega
 have hgt:(0:Int)<(k:Int)+1:=by omega
 have tn:((k:Int)+1).toNat=k+1:=by omega
 have hw:ah .i64 (k:Int)=(k:Int):=wrap_i64 (by omega);have hk2:((k+1:Nat):Int)=(k:Int)+1:=by omega
 have s1:∀ r,(es.set (k+1) r)[k]?=some (y.d e):=fun r=>by rw[List.getElem?_set_ne (by omega)];exact hy
 generalize mP x y=od at*;obtain⟨s,l1,l2,c,b,u,p,ps,_,ex⟩:=x.jO e;obtain⟨s',l1',l2',c',b',u',p',ps',_,ey⟩:=y.jO e;simp only[ex,ey]at t hx hy s1 ⊢;clear ex ey;unfold BO at*;generalize x.f=xf,x.l=xl,x.t=xt,y.f=yf,y.l=yl,y.t=yt at*;have oK:k<es.length:=by omega
 refine Ex.of (n:=500) ?_;unfold Lx;rw[hk2];have i1:=idx hx;have i2:=idx hy;have i3:=idx hB;have i4:∀ r (h:k<(es.set (k+1) r).length),(es.set (k+1) r)[k]=_:=fun r h=>idx (s1 r) h
 simp -implicitDefEqProofs[inM,f1208,t,hol,hkl,hkn,hkn2,hk0,hk1,hgt,tn,hw,hB,hx,hy,s1,i1,i2,i3,i4,hlt,oK,hn]
theorem XR (o az n:Nat)(B:List ae)(i k:Nat)(dt:Bool)(es:List D)(x y:Ar α)(hB:B[o]?=some (.row az 11 es))(hn:es.length=n)(hn2:n<=1000000)(hx:es[k+1]?=some (x.d e))(hy:es[k]?=some (y.d e))(hlt:¬ mP x y<0) :
  Ex E0 inM (Lx o az n B i (k+1) .u dt) (.exit 2,Lx o az n B i (k+1) (.d (.v (.bool false))) dt):=by
 have t:=fun m=>wy e m x y
 have hol:o<B.length:=(bH hB)
 have hkl:k+1<es.length:=(bH hx)
 have hkn:(k:Int)+1<(n:Int):=by omega
 have hkn2:(k:Int)<(n:Int):=by omega
 have hk0:(0:Int)<=(k:Int):=by omega
 have hk1:(0:Int)<=(k:Int)+1:=by omega
 have hgt:(0:Int)<(k:Int)+1:=by omega
 have tn:((k:Int)+1).toNat=k+1:=by omega
 have hw:ah .i64 (k:Int)=(k:Int):=wrap_i64 (by omega);have hk2:((k+1:Nat):Int)=(k:Int)+1:=by omega
 generalize mP x y=od at*;have hge:0<=od:=by omega
 obtain⟨s,l1,l2,c,b,u,p,ps,_,ex⟩:=x.jO e;obtain⟨s',l1',l2',c',b',u',p',ps',_,ey⟩:=y.jO e;simp only[ex,ey]at t hx hy ⊢;clear ex ey;unfold BO at*;generalize x.f=xf,x.l=xl,x.t=xt,y.f=yf,y.l=yl,y.t=yt at*;have oK:k<es.length:=by omega
 refine Ex.of (n:=500) ?_;unfold Lx;rw[hk2];have i1:=idx hx;have i2:=idx hy;have i3:=idx hB;simp -implicitDefEqProofs[inM,f1208,t,hol,hkl,hkn,hkn2,hk0,hk1,hgt,tn,hw,hB,hx,hy,i1,i2,i3,hlt,oK,hn,hge]
theorem XT (o az n:Nat)(B:List ae)(i:Nat)(dt:Bool):Ex E0 inM (Lx o az n B i 0 .u dt) (.exit 2,Lx o az n B i 0 (.d (.v (.bool false))) dt):=by
 refine Ex.of (n:=100) ?_;unfold Lx;simp -implicitDefEqProofs[inM,f1208]
end
section
variable {α:Type} {e:α->W}
def dE (x:Ar α)(p:List (Ar α)):Nat->Nat
 | 0=>0
 | j+1=>match p[j]? with
  | some y=>if mP x y<0 then dE x p j else j+1
  | none=>j+1
theorem xR (x:Ar α)(p:List (Ar α)):∀ j,dE x p j<=j
 | 0=>Nat.le_refl _
 | j+1=>by
  unfold dE;split
  ·split
   ·exact Nat.le_succ_of_le (xR x p j)
   ·exact Nat.le_refl _
  ·exact Nat.le_refl _
def q9 (x:Ar α)(p:List (Ar α)):List (Ar α):=p.take (dE x p p.length)++x::p.drop (dE x p p.length)
def bu (l:List (Ar α)):List (Ar α):=l.foldl (fun p x=>q9 x p) []
theorem Ul (x:Ar α)(p:List (Ar α)):(q9 x p).length=p.length+1:=by
 unfold q9;have:=xR x p p.length;simp only[List.length_append,List.length_take,List.length_cons,List.length_drop];omega
theorem yZ:∀ (l p:List (Ar α)),(l.foldl (fun p x=>q9 x p) p).length=p.length+l.length
 | [],p=>rfl
 | x::l,p=>by rw[List.foldl_cons,yZ l,Ul];simp;omega
theorem kN (l:List (Ar α)):(bu l).length=l.length:=by
 unfold bu;rw[yZ];simp
def J4 (e:α->W)(p q:List (Ar α))(x:Ar α)(j:Nat):List D:=((p.take j++x::p.drop j)++q).map (Ar.d e)
theorem XU (p q:List (Ar α))(x:Ar α)(j:Nat)(h:j<=p.length):(J4 e p q x j).length=p.length+1+q.length:=by
 unfold J4;simp only[List.length_map,List.length_append,List.length_take,List.length_cons,List.length_drop];omega
theorem Zj {p q:List (Ar α)}{x:Ar α}{j:Nat}(h:j<=p.length):(J4 e p q x j)[j]?=some (x.d e):=by
 unfold J4;rw[List.getElem?_map,List.append_assoc,List.getElem?_append_right (by simp[Nat.min_eq_left h])];simp[Nat.min_eq_left h]
theorem Zk {p q:List (Ar α)}{x y:Ar α}{j:Nat}(h:p[j]?=some y):(J4 e p q x (j+1))[j]?=some (y.d e):=by
 have hj:=(bH h)
 unfold J4;rw[List.getElem?_map,List.append_assoc,List.getElem?_append_left (by simp;omega),List.getElem?_take,if_pos (by omega),h];rfl
theorem Um {p q:List (Ar α)}{x y:Ar α}{j:Nat}(h:p[j]?=some y):((J4 e p q x (j+1)).set (j+1) (y.d e)).set j (x.d e)=J4 e p q x j:=by
 obtain⟨hj,hy⟩:=List.getElem?_eq_some_iff.1 h;subst hy;unfold J4;rw[List.take_succ_eq_append_getElem hj,List.drop_eq_getElem_cons hj];simp only[List.map_append,List.map_cons,List.append_assoc,List.cons_append,List.nil_append,List.map_nil];have hl:(List.map (Ar.d e) (List.take j p)).length=j:=by simp;omega
 rw[List.set_append_right _ _ (by omega),List.set_append_right _ _ (by omega),hl];simp
theorem Ns (o az n i:Nat)(B:List ae)(ho:o<B.length)(p q:List (Ar α))(x:Ar α)(hn:p.length+1+q.length=n)(hn2:n<=1000000):∀ (j:Nat),j<=p.length->∀ dt,∃ Dt,
  Ex E0 (.loop inM) (Lx o az n (B.set o (.row az 11 (J4 e p q x j))) i j .u dt) (.exit 2,Lx o az n (B.set o (.row az 11 (J4 e p q x (dE x p j)))) i (dE x p j) (.d (.v (.bool false))) Dt)/\(Dt=false->dt=false/\dE x p j=j)
 | 0,_,dt=>⟨dt,Ex.leave (XT o az n _ i dt) (by simp),fun h=>⟨h,rfl⟩⟩
 | j+1,hj,dt=>by
  have hy:p[j]?=some p[j]:=List.getElem?_eq_getElem (by omega);have hl:=XU (e:=e) p q x (j+1) hj;have hB:(B.set o (.row az 11 (J4 e p q x (j+1))))[o]?=some (.row az 11 (J4 e p q x (j+1))):=List.getElem?_set_self ho
  by_cases hlt:mP x p[j]<0
  ·have hp:dE x p (j+1)=dE x p j:=by simp only[dE,hy,if_pos hlt]
   rw[hp];have hr:=XQ o az n _ i j dt _ x p[j] hB (by omega) hn2 (Zj hj) (Zk hy) hlt;rw[Um hy,List.set_set]at hr;obtain⟨Dt,h1,h2⟩:=Ns o az n i B ho p q x hn hn2 j (by omega) true;exact⟨Dt,hr.next h1,fun h=>absurd (h2 h).1 (by simp)⟩
  ·have hp:dE x p (j+1)=j+1:=by simp only[dE,hy,if_neg hlt]
   rw[hp];exact⟨dt,Ex.leave (XR o az n _ i j dt _ x p[j] hB (by omega) hn2 (Zj hj) (Zk hy) hlt) (by simp),fun h=>⟨h,rfl⟩⟩
def rf (o az n:Nat)(B:List ae)(i:Nat)(t:FV)(dt:Bool):St :=
 {vars:=[.ls (.old o) az 11 0 n,.d (.v (.int .i64 0)),.d (.v (.int .i64 n)),.d (.fn 1070),.d (.v (.int .i64 i)),.u,t,.u],base:=B,loc:=[],aP:=dt}
def LA:aH:=f1208.body.r.bl.lp
theorem Pv (o az n i:Nat)(B:List ae)(ho:o<B.length)(p q:List (Ar α))(x:Ar α)(hp:p.length=i)(hn:p.length+1+q.length=n)(hn2:n<=1000000)(dt:Bool):∃ Dt,
  Ex E0 LA (rf o az n (B.set o (.row az 11 ((p++x::q).map (Ar.d e)))) i .u dt) (.norm,rf o az n (B.set o (.row az 11 ((q9 x p++q).map (Ar.d e)))) (i+1) .u Dt)/\(Dt=false->dt=false/\q9 x p=p++[x]):=by
 obtain⟨Dt,h1,h2⟩:=Ns o az n i B ho p q x hn hn2 p.length (Nat.le_refl _) dt;have e0:J4 e p q x p.length=(p++x::q).map (Ar.d e):=by unfold J4;simp
 have e1:J4 e p q x (dE x p p.length)=(q9 x p++q).map (Ar.d e):=rfl;rw[e0,e1]at h1;refine⟨Dt,?_,fun h=>⟨(h2 h).1,by unfold q9;rw[(h2 h).2];simp⟩⟩;have hin:(i:Int)<(n:Int):=by omega
 have hw:ah .i64 ((i:Int)+1)=(i:Int)+1:=wrap_i64 (by omega);have hi1:((i+1:Nat):Int)=(i:Int)+1:=by omega
 generalize (p++x::q).map (Ar.d e)=e2 at*;generalize (q9 x p++q).map (Ar.d e)=e3,dE x p p.length=j2 at*;rw[hp]at h1;refine Ex.seq (st1:=rf o az n (B.set o (.row az 11 e2)) i (.d (.v (.bool true))) dt) (Ex.of (n:=60) (by unfold rf;simp -implicitDefEqProofs[LA,f1208,hin])) ?_;refine Ex.seq (st1:=Lx o az n (B.set o (.row az 11 e3)) i j2 (.d (.v (.bool false))) Dt) (Ex.h_ (Ex.seq (st1:=Lx o az n (B.set o (.row az 11 e2)) i i .u dt) (Ex.of (n:=60) (by unfold rf Lx;simp -implicitDefEqProofs[LA,f1208])) (Ex.block h1))) ?_;refine Ex.of (n:=60) ?_;unfold rf Lx;rw[hi1];simp -implicitDefEqProofs[LA,f1208,hw]
theorem I7 (o az n i:Nat)(B:List ae)(hi:n<=i)(dt:Bool):Ex E0 LA (rf o az n B i .u dt) (.exit 0,rf o az n B i (.d (.v (.bool false))) dt):=by
 refine Ex.of (n:=60) ?_;have hin:¬ (i:Int)<(n:Int):=by omega
 have hin2:(n:Int)<=(i:Int):=by omega
 unfold rf;simp -implicitDefEqProofs[LA,f1208,hin,hin2]
theorem I8 (o az:Nat)(B:List ae)(ho:o<B.length)(l:List (Ar α))(hn2:l.length<=1000000):∀ (d i:Nat),i+d=l.length->∀ dt,∃ Dt,
  Ex E0 (.loop LA) (rf o az l.length (B.set o (.row az 11 ((bu (l.take i)++l.drop i).map (Ar.d e)))) i .u dt) (.exit 0,rf o az l.length (B.set o (.row az 11 ((bu l).map (Ar.d e)))) l.length (.d (.v (.bool false))) Dt) /\
   (Dt=false->dt=false/\bu l=bu (l.take i)++l.drop i)
 | 0,i,hi,dt=>by
  obtain rfl:i=l.length:=by omega
  rw[List.take_length,List.drop_length,List.append_nil];exact⟨dt,Ex.leave (I7 o az _ _ _ (Nat.le_refl _) dt) (by simp),fun h=>⟨h,rfl⟩⟩
 | d+1,i,hi,dt=>by
  have hlt:i<l.length:=by omega
  have e1:bu (l.take (i+1))=q9 l[i] (bu (l.take i)):=by
   unfold bu;rw[List.take_succ_eq_append_getElem hlt,List.foldl_append];rfl
  obtain⟨dt1,h1,h2⟩:=Pv o az l.length i B ho (bu (l.take i)) (l.drop (i+1)) l[i] (by rw[kN];simp;omega) (by rw[kN];simp;omega) hn2 dt;rw[<-List.drop_eq_getElem_cons hlt,<-e1]at h1;obtain⟨dt2,h3,h4⟩:=I8 o az B ho l hn2 d (i+1) (by omega) dt1;refine⟨dt2,h1.next h3,fun h => ?_⟩;obtain⟨g1,g2⟩:=h4 h;obtain⟨g3,g4⟩:=h2 g1;refine⟨g3,?_⟩;rw[g2,e1,g4,List.append_assoc,List.singleton_append,<-List.drop_eq_getElem_cons hlt]
def sorted (e:α->W)(o az:Nat)(B:List ae)(l:List (Ar α))(r:FV × Option (List ae)):Prop :=
 (r=(.d (.t []),none)/\bu l=l)\/r=(.d (.t []),some (B.set o (.row az 11 ((bu l).map (Ar.d e)))))
theorem abn (o az:Nat)(B:List ae)(l:List (Ar α))(hB:B[o]?=some (.row az 11 (l.map (Ar.d e))))(hO:∀ n,B.map (ae.av n)=B)(hn:l.length<=1000000) :
  ∃ r N,(∀ m,CL E0 (N+m) 1208 [.ls (.old o) az 11 0 l.length,.d (.v (.int .i64 0)),.d (.v (.int .i64 l.length)),.d (.fn 1070)] B=some r)/\sorted e o az B l r:=by
 have ho:o<B.length:=(bH hB)
 have hself:B.set o (.row az 11 (l.map (Ar.d e)))=B:=by
  obtain⟨h,e⟩:=List.getElem?_eq_some_iff.1 hB;rw[<-e,List.set_getElem_self]
 have hset:∀ n r,(∀ k,ae.av k r=r)->(B.set o r).map (ae.av n)=B.set o r:=fun n r hr=>by rw[List.map_set,hO,hr]
 obtain⟨dt,st,hrun,hdt,hst⟩:∃ (dt:Bool) (i:Nat),Ex E0 f1208.body (rf o az l.length B 0 .u false |> fun s=>{s with vars:=[.ls (.old o) az 11 0 l.length,.d (.v (.int .i64 0)),.d (.v (.int .i64 l.length)),.d (.fn 1070),.u,.u,.u,.u]}) (.norm,rf o az l.length (B.set o (.row az 11 ((bu l).map (Ar.d e)))) i (.d (.v (.bool false))) dt)/\(dt=false->bu l=l)/\True:=by
  have h0:Ex E0 f1208.body.l (rf o az l.length B 0 .u false |> fun s=>{s with vars:=[.ls (.old o) az 11 0 l.length,.d (.v (.int .i64 0)),.d (.v (.int .i64 l.length)),.d (.fn 1070),.u,.u,.u,.u]}) (.norm,rf o az l.length B 1 .u false):=by
   refine Ex.of (n:=60) ?_;have w1:ah .i64 1=1:=wrap_i64 (by omega);unfold rf;simp -implicitDefEqProofs[f1208,w1]
  cases l with
  | nil =>
   refine⟨false,1,?_,fun _=>rfl,trivial⟩;have h1:=I7 o az 0 1 B (by omega) false;simp only[List.map_nil]at hself;have e1:(bu ([]:List (Ar α))).map (Ar.d e)=[]:=rfl;rw[e1,hself];exact Ex.seq h0 (Ex.block (Ex.leave h1 (by simp)))
  | cons a l =>
   obtain⟨dt,h1,h2⟩:=I8 o az B ho (a::l) hn l.length 1 (by simp;omega) false;have e1:bu ((a::l).take 1)++(a::l).drop 1=a::l:=by simp[bu,q9,dE]
   rw[e1,hself]at h1;rw[e1]at h2;exact⟨dt,_,Ex.seq h0 (Ex.block h1),fun h=>(h2 h).2,trivial⟩
 obtain⟨N,hN⟩:=oW (E:=E0) (g:=1208) (F:=f1208) (args:=[.ls (.old o) az 11 0 l.length,.d (.v (.int .i64 0)),.d (.v (.int .i64 l.length)),.d (.fn 1070)]) (B:=B) (o:=.norm)
  (r:=if dt then(.d (.t []),some (B.set o (.row az 11 ((bu l).map (Ar.d e))))) else(.d (.t []),none)) rfl (k1208:E0.fn _=_) rfl hrun (by simp) (by
   have hm:=hset (B.set o (.row az 11 ((bu l).map (Ar.d e)))).length (.row az 11 ((bu l).map (Ar.d e))) (fun _=>rfl);cases dt<;>simp[finish,ll,show f1208.res=[] from rfl,show f1208.ref=true from rfl,fK,oneOf,tN,jL,jS,rf,FV.av,hset,ae.av,hO])
 refine⟨_,N,hN,?_⟩;cases dt with
 | true=>exact .inr rfl
 | false=>exact .inl ⟨rfl,hdt rfl⟩
end
section
variable {α:Type} {e:α->W}
theorem F3 (o az:Nat)(B:List ae)(l:List (Ar α))(hB:B[o]?=some (.row az 11 (l.map (Ar.d e))))(hO:∀ n,B.map (ae.av n)=B)(hn:l.length<20) :
  ∃ r N,(∀ m,CL E0 (N+m) 1138 [.ls (.old o) az 11 0 l.length,.d (.v (.int .i64 l.length)),.d (.fn 1070)] B=some r)/\sorted e o az B l r:=by
 obtain⟨r,N,t,hs⟩:=abn o az B l hB hO (by omega);refine⟨r,N+200,fun m => ?_,hs⟩;have h1:¬ (20:Int)<=(l.length:Int):=by omega
 have h2:¬ (20:Int)<(l.length:Int):=by omega
 have h1':(l.length:Int)<20:=by omega
 have h2':(l.length:Int)<=20:=by omega
 have hne:N+200+m=(N+m)+200:=by omega
 have hB0:B≠[]:=by intro h;rw[h]at hB;cases hB
 rw[hne,ak rfl (k1138:E0.fn _=_) rfl];replace t:=fun k=>eD (t 0) (show N+0<=N+m+k by omega)
 rcases hs with ⟨rfl,_⟩|rfl
 ·generalize l.length=n at*;simp -implicitDefEqProofs[f1138,aC,t,hO,h1,h2,h1',h2',FV.av,FV.aO,tN]
 ·have hO1:∀ k,(B.set o (.row az 11 ((bu l).map (Ar.d e)))).map (ae.av k)=B.set o (.row az 11 ((bu l).map (Ar.d e))):=fun k=>by rw[List.map_set,hO];rfl
  have tk:(B.set o (.row az 11 ((bu l).map (Ar.d e)))).take B.length=B.set o (.row az 11 ((bu l).map (Ar.d e))):=List.take_of_length_le (by simp);have dp:(B.set o (.row az 11 ((bu l).map (Ar.d e)))).drop B.length=[]:=List.drop_of_length_le (by simp);generalize B.set o (.row az 11 ((bu l).map (Ar.d e)))=B1,l.length=n at*;simp -implicitDefEqProofs[f1138,aC,t,hB0,hO,hO1,tk,dp,h1,h2,h1',h2',FV.av,FV.aO,tN]
theorem Pw (o az:Nat)(B:List ae)(l:List (Ar α))(hB:B[o]?=some (.row az 11 (l.map (Ar.d e))))(hO:∀ n,B.map (ae.av n)=B)(hn:l.length<20) :
  ∃ r N,(∀ m,CL E0 (N+m) 1101 [.ls (.old o) az 11 0 l.length,.d (.fn 1070)] B=some r)/\sorted e o az B l r:=by
 obtain⟨r,N,t,hs⟩:=F3 o az B l hB hO hn;refine⟨r,N+200,fun m => ?_,hs⟩;have hne:N+200+m=(N+m)+200:=by omega
 have hB0:B≠[]:=by intro h;rw[h]at hB;cases hB
 rw[hne,ak rfl (k1101:E0.fn _=_) rfl];replace t:=fun k=>eD (t 0) (show N+0<=N+m+k by omega)
 rcases hs with ⟨rfl,_⟩|rfl
 ·generalize l.length=n at*;simp -implicitDefEqProofs[f1101,t,hO,FV.av,FV.aO,tN]
 ·have hO1:∀ k,(B.set o (.row az 11 ((bu l).map (Ar.d e)))).map (ae.av k)=B.set o (.row az 11 ((bu l).map (Ar.d e))):=fun k=>by rw[List.map_set,hO];rfl
  have tk:(B.set o (.row az 11 ((bu l).map (Ar.d e)))).take B.length=B.set o (.row az 11 ((bu l).map (Ar.d e))):=List.take_of_length_le (by simp);have dp:(B.set o (.row az 11 ((bu l).map (Ar.d e)))).drop B.length=[]:=List.drop_of_length_le (by simp);generalize B.set o (.row az 11 ((bu l).map (Ar.d e)))=B1,l.length=n at*;simp -implicitDefEqProofs[f1101,t,hB0,hO,hO1,tk,dp,FV.av,FV.aO,tN]
end
end Fi.S
namespace Fi.S
open Go Fi
section
section
variable {α:Type}
theorem j4 (x y:Int):(gX x y=-1/\x<y)\/(gX x y=0/\x=y)\/(gX x y=1/\y<x):=by
 unfold gX
 by_cases h1:x<y
 ·exact .inl ⟨if_pos h1,h1⟩
 ·by_cases h2:y<x
  ·exact .inr (.inr ⟨by rw[if_neg h1,if_pos h2],h2⟩)
  ·exact .inr (.inl ⟨by rw[if_neg h1,if_neg h2],by omega⟩)
def jP (a b:Ar α):Prop:=a.f<b.f\/a.f=b.f/\(a.l<b.l\/a.l=b.l/\a.t<b.t)
def kP (a b:Ar α):Prop:=a.f=b.f/\a.l=b.l/\a.t=b.t
theorem Nt (a b:Ar α):mP a b<0↔jP a b:=by
 unfold mP or3 jP;rcases j4 a.f b.f with ⟨h,h'⟩|⟨h,h'⟩|⟨h,h'⟩<;>rcases j4 a.l b.l with ⟨k,k'⟩|⟨k,k'⟩|⟨k,k'⟩<;>rcases j4 a.t b.t with ⟨m,m'⟩|⟨m,m'⟩|⟨m,m'⟩<;>simp only[h,k,m]<;>simp<;>omega
theorem F4 (a b:Ar α):mP a b=0↔kP a b:=by
 unfold mP or3 kP;rcases j4 a.f b.f with ⟨h,h'⟩|⟨h,h'⟩|⟨h,h'⟩<;>rcases j4 a.l b.l with ⟨k,k'⟩|⟨k,k'⟩|⟨k,k'⟩<;>rcases j4 a.t b.t with ⟨m,m'⟩|⟨m,m'⟩|⟨m,m'⟩<;>simp only[h,k,m]<;>simp<;>omega
theorem jE (a b:Ar α):jP a b\/kP a b\/jP b a:=by unfold jP kP;omega
theorem y5 {a b:Ar α}(h:kP a b):¬ jP a b:=by unfold jP kP at*;omega
theorem nU {a b:Ar α}(h:jP a b):¬ jP b a:=by unfold jP at*;omega
theorem wz {a b:Ar α}(h:jP a b):¬ kP a b:=by unfold jP kP at*;omega
theorem I9 {a b:Ar α}(h:jP a b):¬ kP b a:=by unfold jP kP at*;omega
theorem Px {a b c:Ar α}(h:jP a b)(k:jP b c):jP a c:=by unfold jP at*;omega
theorem aeh {a b c:Ar α}(h:¬ jP b a)(k:jP b c):jP a c:=by unfold jP at*;omega
theorem Zl {a b c:Ar α}(h:jP a b)(k:¬ jP c b):jP a c:=by unfold jP at*;omega
theorem aei {a b c:Ar α}(h:¬ jP b a)(k:¬ jP c b):¬ jP c a:=by unfold jP at*;omega
def lh (pl:α->α->α)(a b:Ar α):Ar α:={a with x:=pl a.x b.x}
theorem F5 {pl:α->α->α}{a b c:Ar α}:kP (lh pl a b) c↔kP a c:=Iff.rfl
instance (a b:Ar α):Decidable (jP a b):=by unfold jP;exact inferInstance
instance (a b:Ar α):Decidable (kP a b):=by unfold kP;exact inferInstance
def oZ (x:Ar α):List (Ar α)->List (Ar α)
 | []=>[x]
 | y::r=>if jP x y then x::y::r else y::oZ x r
def u6 (pl:α->α->α)(a:Ar α):List (Ar α)->List (Ar α)
 | []=>[a]
 | b::r=>if kP a b then u6 pl (lh pl a b) r else a::u6 pl b r
def mg (pl:α->α->α):List (Ar α)->List (Ar α)
 | []=>[]
 | a::r=>u6 pl a r
def bJ (pl:α->α->α)(x:Ar α):List (Ar α)->List (Ar α)
 | []=>[x]
 | y::r=>if jP y x then y::bJ pl x r else if kP y x then lh pl y x::r else x::y::r
abbrev zD (l:List (Ar α)):Prop:=l.Pairwise fun a b=>¬ jP b a
theorem I_ (pl:α->α->α):∀ (r:List (Ar α)) (a:Ar α),∃ y t,u6 pl a r=y::t/\kP y a
 | [],a=>⟨a,[],rfl,rfl,rfl,rfl⟩
 | b::r,a=>by
  unfold u6;split
  ·obtain⟨y,t,h1,h2⟩:=I_ pl r (lh pl a b);exact⟨y,t,h1,h2⟩
  ·exact⟨a,_,rfl,rfl,rfl,rfl⟩
theorem wB {pl:α->α->α}{x:Ar α}(r:List (Ar α)){a:Ar α}(h:jP x a):bJ pl x (u6 pl a r)=x::u6 pl a r:=by
 obtain⟨y,t,h1,h2⟩:=I_ pl r a;have h3:jP x y:=by unfold jP kP at*;omega
 rw[h1,bJ,if_neg (nU h3),if_neg (I9 h3)]
theorem F6 (pl:α->α->α)(x:Ar α):∀ (r:List (Ar α)) (a:Ar α),zD (a::r)->¬ jP x a->u6 pl a (oZ x r)=bJ pl x (u6 pl a r)
 | [],a,_,h=>by
  simp only[oZ,u6]
  by_cases he:kP a x
  ·rw[if_pos he,bJ,if_neg (y5 he),if_pos he]
  ·have hlt:jP a x:=by
    rcases jE a x with h1|h1|h1
    ·exact h1
    ·exact absurd h1 he
    ·exact absurd h1 h
   rw[if_neg he,bJ,if_pos hlt];rfl
 | b::r,a,hs,h=>by
  obtain⟨hab,hs2⟩:=List.pairwise_cons.1 hs;have ahb:=hab b (by simp);unfold oZ
  by_cases hxb:jP x b
  ·rw[if_pos hxb];have aej:jP a b:=aeh h hxb;have e1:u6 pl a (b::r)=a::u6 pl b r:=by rw[u6,if_neg (wz aej)]
   rw[e1]
   by_cases he:kP a x
   ·have e2:u6 pl (lh pl a x) (b::r)=lh pl a x::u6 pl b r:=by rw[u6,if_neg (fun h'=>wz aej (F5.1 h'))]
    rw[u6,if_pos he,e2,bJ,if_neg (y5 he),if_pos he]
   ·have hlt:jP a x:=by
     rcases jE a x with h1|h1|h1
     ·exact h1
     ·exact absurd h1 he
     ·exact absurd h1 h
    have e2:u6 pl x (b::r)=x::u6 pl b r:=by rw[u6,if_neg (wz hxb)]
    rw[u6,if_neg he,e2,bJ,if_pos hlt,wB r hxb]
  ·rw[if_neg hxb]
   by_cases he:kP a b
   ·have hs3:zD (lh pl a b::r):=List.pairwise_cons.2 ⟨fun c hc=>hab c (by simp[hc]),(List.pairwise_cons.1 hs2).2⟩;rw[u6,if_pos he,F6 pl x r (lh pl a b) hs3 h,u6,if_pos he]
   ·have hlt:jP a b:=by
     rcases jE a b with h1|h1|h1
     ·exact h1
     ·exact absurd h1 he
     ·exact absurd h1 ahb
    rw[u6,if_neg he,F6 pl x r b hs2 hxb,u6,if_neg he,bJ,if_pos (Zl hlt hxb)]
theorem abo (pl:α->α->α)(x:Ar α):∀ (s:List (Ar α)),zD s->mg pl (oZ x s)=bJ pl x (mg pl s)
 | [],_=>rfl
 | a::r,hs=>by
  unfold oZ
  by_cases h:jP x a
  ·rw[if_pos h]
   change u6 pl x (a::r)=bJ pl x (u6 pl a r)
   rw[wB r h,u6,if_neg (wz h)]
  ·rw[if_neg h];exact F6 pl x r a hs h
theorem Ja {x:Ar α}:∀ {s:List (Ar α)} {y:Ar α},y ∈ oZ x s->y=x\/y ∈ s
 | [],y,h=>by simp[oZ]at h;exact .inl h
 | a::r,y,h=>by
  unfold oZ at h;split at h
  ·simpa using h
  ·rcases List.mem_cons.1 h with h|h
   ·exact .inr (by simp[h])
   ·rcases Ja h with h|h
    ·exact .inl h
    ·exact .inr (by simp[h])
theorem BP (x:Ar α):∀ {s:List (Ar α)},zD s->zD (oZ x s)
 | [],_=>by simp[oZ,zD]
 | a::r,hs=>by
  obtain⟨h1,h2⟩:=List.pairwise_cons.1 hs;unfold oZ;split
  ·rename_i h;refine List.pairwise_cons.2 ⟨fun c hc => ?_,hs⟩;rcases List.mem_cons.1 hc with rfl|hc
   ·exact nU h
   ·exact nU (Zl h (h1 c hc))
  ·rename_i h;refine List.pairwise_cons.2 ⟨fun c hc => ?_,BP x h2⟩;rcases Ja hc with rfl|hc
   ·exact h
   ·exact h1 c hc
theorem BQ (x:Ar α)(v:List (Ar α))(hv:∀ y,v.head?=some y->jP x y):∀ (u:List (Ar α)),(∀ y ∈ u,¬ jP x y)->oZ x (u++v)=u++x::v
 | [],_=>by
  cases v with
  | nil=>rfl
  | cons y r=>simp only[List.nil_append,oZ];rw[if_pos (hv y rfl)]
 | a::u,h=>by
  rw[List.cons_append,oZ,if_neg (h a (by simp)),BQ x v hv u (fun y hy=>h y (by simp[hy]))];rfl
theorem y7 (x:Ar α)(p:List (Ar α)):∀ j,j<=p.length->(∀ i y,dE x p j<=i->i<j->p[i]?=some y->jP x y)/\(∀ y,0<dE x p j->p[dE x p j-1]?=some y->¬ jP x y)
 | 0,_=>⟨fun i y h1 h2=>by omega,fun y h=>by simp[dE]at h⟩
 | j+1,hj=>by
  have hy:p[j]?=some p[j]:=List.getElem?_eq_getElem (by omega);obtain⟨h1,h2⟩:=y7 x p j (by omega)
  by_cases hlt:mP x p[j]<0
  ·have hp:dE x p (j+1)=dE x p j:=by simp only[dE,hy,if_pos hlt]
   rw[hp];refine⟨fun i y g1 g2 g3 => ?_,h2⟩;rcases Nat.lt_or_ge i j with h|h
   ·exact h1 i y g1 h g3
   ·obtain rfl:i=j:=by omega
    rw[hy]at g3;cases g3;exact(Nt _ _).1 hlt
  ·have hp:dE x p (j+1)=j+1:=by simp only[dE,hy,if_neg hlt]
   rw[hp];refine⟨fun i y g1 g2=>by omega,fun y _ g => ?_⟩;simp only[Nat.add_sub_cancel]at g;rw[hy]at g;cases g;exact fun h=>hlt ((Nt _ _).2 h)
theorem XV (x:Ar α){p:List (Ar α)}(hs:zD p):q9 x p=oZ x p:=by
 obtain⟨h1,h2⟩:=y7 x p p.length (Nat.le_refl _);have hle:=xR x p p.length;generalize hk:dE x p p.length=k at*;have:=BQ x (p.drop k) (fun y hy=>by
  rw[List.head?_drop]at hy;exact h1 k y (Nat.le_refl _) (bH hy) hy) (p.take k) (fun y hy=>by
  obtain⟨i,hi⟩:=List.mem_iff_getElem?.1 hy;rw[List.getElem?_take]at hi;split at hi
  ·rename_i hik;have hlast:p[k-1]?=some p[k-1]:=List.getElem?_eq_getElem (by omega);have h3:=h2 p[k-1] (by omega) hlast;rcases Nat.lt_or_ge i (k-1) with h|h
   ·have hii:=(List.getElem?_eq_some_iff.1 hi)
    have h4:=List.pairwise_iff_getElem.1 hs i (k-1) hii.1 (by omega) h;rw[hii.2]at h4;exact aei h4 h3
   ·obtain rfl:i=k-1:=by omega
    rw[hlast]at hi;cases hi;exact h3
  ·cases hi)
 rw[List.take_append_drop]at this;unfold q9;rw[hk,this]
theorem BR:∀ (l p:List (Ar α)),zD p->l.foldl (fun p x=>q9 x p) p=l.foldl (fun p x=>oZ x p) p/\zD (l.foldl (fun p x=>oZ x p) p)
 | [],p,h=>⟨rfl,h⟩
 | x::l,p,h=>by
  rw[List.foldl_cons,List.foldl_cons,XV x h];exact BR l _ (BP x h)
theorem Un (pl:α->α->α):∀ (l p:List (Ar α)),zD p->mg pl (l.foldl (fun p x=>oZ x p) p)=l.foldl (fun p x=>bJ pl x p) (mg pl p)
 | [],p,h=>rfl
 | x::l,p,h=>by
  rw[List.foldl_cons,List.foldl_cons,Un pl l _ (BP x h),abo pl x p h]
def dU (pl:α->α->α)(l:List (Ar α)):List (Ar α):=l.foldl (fun p x=>bJ pl x p) []
theorem XW (pl:α->α->α)(l:List (Ar α)):mg pl (bu l)=dU pl l:=by
 unfold bu dU;rw[(BR l [] (by simp[zD])).1];exact Un pl l [] (by simp[zD])
def j5 (pl:α->α->α)(out:List (Ar α))(x:Ar α):List (Ar α) :=
 match out.getLast? with
 | some y=>if kP y x then out.dropLast++[lh pl y x] else out++[x]
 | none=>[x]
theorem kQ (pl:α->α->α)(p:List (Ar α))(y x:Ar α):j5 pl (p++[y]) x=if kP y x then p++[lh pl y x] else p++[y]++[x]:=by
 unfold j5;simp
theorem rq (pl:α->α->α):∀ (r p:List (Ar α)) (a:Ar α),r.foldl (j5 pl) (p++[a])=p++u6 pl a r
 | [],p,a=>rfl
 | b::r,p,a=>by
  rw[List.foldl_cons,kQ,u6];split
  ·exact rq pl r p _
  ·rw[rq pl r (p++[a]) b,List.append_assoc];rfl
theorem XX (pl:α->α->α)(s:List (Ar α)):s.foldl (j5 pl) []=mg pl s:=by
 cases s with
 | nil=>rfl
 | cons a r =>
  rw[List.foldl_cons];exact rq pl r [] a
end
end
section
variable {α:Type}
structure Zm (kk:Int)(ps:List Int)(e:α->W)(pl:α->α->α)(z:W)(fD:α->Bool)(G:Nat->α->Prop)(m:Nat):Prop where
 mono:∀ n x,G n x->G (n+1) x
 zero:Ca E1 26 [.d (bz kk ps)] (.d z.d,none)
 pz:∀ x,G 1 x->Ca E1 14 [.d (bz kk ps),.d (e x).d,.d z.d] (.d (e x).d,none)
 tk:∀ x,G 1 x->Ca E1 53 [.d (bz kk ps),.d (e x).d] (.d (e x).d,none)
 p1:∀ n x y,n<m->G n x->G 1 y->Ca E1 14 [.d (bz kk ps),.d (e x).d,.d (e y).d] (.d (e (pl x y)).d,none)
 p2:∀ n x y,n<m->G n x->G 1 y->Ca E1 19 [.d (bz kk ps),.d (e x).d,.d (e y).d] (.d (e (pl x y)).d,none)
 pg:∀ n x y,n<m->G n x->G 1 y->G (n+1) (pl x y)
 z1:∀ n x,n<=m->G n x->Ca E1 1104 [.d (bz kk ps),.d (e x).d] (.d (.v (.bool (fD x))),none)
 z2:∀ n x,n<=m->G n x->Ca E1 1126 [.d (bz kk ps),.d (e x).d] (.d (.v (.bool (fD x))),none)
theorem Zm.up {kk:Int}{ps:List Int}{e:α->W}{pl:α->α->α}{z:W}{fD:α->Bool}{G:Nat->α->Prop}{m:Nat}(h:Zm kk ps e pl z fD G m){x:α}(hx:G 1 x):∀ n,G (n+1) x
 | 0=>hx
 | n+1=>h.mono _ _ (h.up hx n)
theorem BS (pl:α->α->α)(x:Ar α):∀ aq:List (Ar α),(bJ pl x aq).length<=aq.length+1
 | []=>by simp[bJ]
 | a::aq=>by
  unfold bJ;have:=BS pl x aq;split
  ·simp;omega
  ·split<;>simp
theorem o7 (pl:α->α->α)(x:Ar α)(P Q:Ar α->Prop)(hx:Q x)(hPQ:∀ y,P y->Q y)(hpl:∀ y,P y->Q (lh pl y x)):∀ aq:List (Ar α),(∀ y ∈ aq,P y)->∀ y ∈ bJ pl x aq,Q y
 | [],_,y,hy=>by simp[bJ]at hy;subst hy;exact hx
 | a::aq,h,y,hy=>by
  unfold bJ at hy;split at hy
  ·rcases List.mem_cons.1 hy with rfl|hy
   ·exact hPQ _ (h _ (by simp))
   ·exact o7 pl x P Q hx hPQ hpl aq (fun y hy=>h y (by simp[hy])) y hy
  ·split at hy
   ·rcases List.mem_cons.1 hy with rfl|hy
    ·exact hpl _ (h _ (by simp))
    ·exact hPQ _ (h _ (by simp[hy]))
   ·rcases List.mem_cons.1 hy with rfl|hy
    ·exact hx
    ·exact hPQ _ (h _ hy)
theorem LB (pl:α->α->α)(x:Ar α)(P Q:Ar α->Prop)(hx:Q x)(hPQ:∀ y,P y->Q y)(hpl:∀ y,P y->Q (lh pl y x))(aq:List (Ar α))(h:∀ y ∈ aq,P y):∀ y ∈ j5 pl aq x,Q y:=by
 intro y hy;rcases List.eq_nil_or_concat aq with rfl|⟨q,a,rfl⟩
 ·simp[j5]at hy;subst hy;exact hx
 ·rw[List.concat_eq_append]at*;rw[kQ]at hy;split at hy
  ·rcases List.mem_append.1 hy with hy|hy
   ·exact hPQ _ (h _ (by simp[hy]))
   ·simp at hy;subst hy;exact hpl _ (h _ (by simp))
  ·rcases List.mem_append.1 hy with hy|hy
   ·exact hPQ _ (h _ hy)
   ·simp at hy;subst hy;exact hx
theorem LF (pl:α->α->α)(x:Ar α)(aq:List (Ar α)):(j5 pl aq x).length<=aq.length+1:=by
 rcases List.eq_nil_or_concat aq with rfl|⟨q,a,rfl⟩
 ·simp[j5]
 ·rw[List.concat_eq_append,kQ];split<;>simp
theorem Uo {x:Ar α}{p:List (Ar α)}{y:Ar α}(h:y ∈ q9 x p):y=x\/y ∈ p:=by
 unfold q9 at h;rcases List.mem_append.1 h with h|h
 ·exact .inr (List.mem_of_mem_take h)
 ·rcases List.mem_cons.1 h with h|h
  ·exact .inl h
  ·exact .inr (List.mem_of_mem_drop h)
theorem y9:∀ (l p:List (Ar α)) {y:Ar α},y ∈ l.foldl (fun p x=>q9 x p) p->y ∈ p\/y ∈ l
 | [],p,y,h=>.inl h
 | x::l,p,y,h=>by
  rw[List.foldl_cons]at h;rcases y9 l _ h with h|h
  ·rcases Uo h with h|h
   ·exact .inr (by simp[h])
   ·exact .inl h
  ·exact .inr (by simp[h])
theorem Jb {l:List (Ar α)}{y:Ar α}(h:y ∈ bu l):y ∈ l:=by
 rcases y9 l [] h with h|h
 ·simp at h
 ·exact h
end
end Fi.S
noncomputable section
namespace Fi.S
open Go Fi
set_option maxHeartbeats 8000000
set_option maxRecDepth 10000
theorem Py {k:Int}(hk:single k=true){S T M M':Nat}(hS:1<=S)(hT:1<=T){x y:Sv}(hx:x.of k S M)(hy:y.of k T M'):(dz k x y).of k (S+T+1) (M+M'):=by
 rcases aL hk with rfl|rfl|rfl|rfl|rfl
 ·obtain⟨a,rfl,h1⟩:=vW hx;obtain⟨b,rfl,h2⟩:=vW hy;refine⟨.inl rfl,?_⟩;have:=oH a b;show qz (a+b)<=_;omega
 ·obtain⟨a,n,rfl,h1⟩:=vX hx;obtain⟨b,m,rfl,h2⟩:=vX hy;show Sv.of 2 _ _ (if mX b m a n then .c b m else .c a n);split
  ·exact hy
  ·exact hx
 ·obtain⟨a,rfl,h1⟩:=vY hx;obtain⟨b,rfl,h2⟩:=vY hy;show Sv.of 3 _ _ (if a<b then .q b else .q a);split
  ·exact Sv.of.mono hy (by omega) (by omega)
  ·exact Sv.of.mono hx (by omega) (by omega)
 ·obtain⟨a,rfl,h1⟩:=vZ hx;obtain⟨b,rfl,h2⟩:=vZ hy;exact⟨rfl,XF a b⟩
 ·obtain⟨a,rfl,h1,h2⟩:=v_ hx;obtain⟨b,rfl,h3,h4⟩:=v_ hy;exact⟨rfl,gp hS hT h1 h3,Nat.le_trans (yP a b) (Nat.add_le_add h2 h4)⟩
theorem BU {S T M M':Nat}(hS:1<=S)(hT:1<=T){ps:List Int}(hs:∀ k ∈ ps,single k=true){xs ys:List Sv}(hx:gH S M ps xs)(hy:gH T M' ps ys):gH (S+T+1) (M+M') ps (bL ps xs ys):=by
 refine⟨by simp[bL,hx.1,hy.1],fun i k z hk hz => ?_⟩;obtain⟨k',x,y,h1,h2,h3,rfl⟩:=gu hz;rw[hk]at h1;cases h1;exact Py (hs k (List.mem_of_getElem? hk)) hS hT (hx.2 i k x hk h2) (hy.2 i k y hk h3)
def bg (kk:Int)(ps:List Int):List Sv:=(dx kk ps).map dC
def EE (kk:Int)(ps:List Int):List Sv:=(dx kk ps).map nS
def DK (kk:Int)(ps:List Int)(xs:List Sv):Bool:=(bR kk xs).eq (bR kk (bg kk ps))
theorem Uq {kk:Int}{ps:List Int}(hv:aI kk ps=true){S M:Nat}{xs:List Sv}(hS:S<=1000)(hx:gH S M (dx kk ps) xs) :
  Ca E1 1104 [.d (bz kk ps),.d (bR kk xs).d] (.d (.v (.bool (DK kk ps xs))),none)/\Ca E1 1126 [.d (bz kk ps),.d (bR kk xs).d] (.d (.v (.bool (DK kk ps xs))),none):=by
 have ok1:=IV hv hS hx;have ok0:(bR kk (bg kk ps)).OK:=IV hv (S:=1) (M:=1) (by omega) (jY (by omega) (aN hv));obtain⟨K,hK,a1,a2,a3,a4⟩:=((Ca.fG (jr _ ok1 _ ok0)).j ((Ca.fG (xH _ ok1 _ ok0)).j ((EC hv).j ((z8 hv).any)))).at 0;unfold DK;rw[show(dx kk ps).map dC=bg kk ps from rfl]at a3 a4;generalize (bR kk xs).eq (bR kk (bg kk ps))=b at*;obtain⟨xs',xl1,xl2,xc,xb,xu,xp,xq,ex⟩:=(bR kk xs).aM;obtain⟨zs,FP,FQ,zc,zb,zu,zp,zq,ez⟩:=(bR kk (bg kk ps)).aM;simp only[ex,ez]at*;clear ok1 ok0 hx ex ez hv;unfold wD bz at*;generalize LK .i64 ps=l9 at*;refine⟨?_,?_⟩
 ·refine Ca.bO (n:=K+100) ?_;rw[ak rfl (k1104:E1.fn _=_) rfl];simp -implicitDefEqProofs[f1104,a1,a3]
 ·refine Ca.bO (n:=K+100) ?_;rw[ak rfl (k1126:E1.fn _=_) rfl];simp -implicitDefEqProofs[f1126,a2,a4]
end Fi.S
