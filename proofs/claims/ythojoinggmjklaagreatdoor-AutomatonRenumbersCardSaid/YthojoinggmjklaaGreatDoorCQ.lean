import Derived.Test.YthojoinggmjklaaGreatDoorCP
set_option linter.unusedVariables false
set_option linter.unusedSimpArgs false
noncomputable section
namespace Fi
open Go
section
section
variable {E:Env} {α β:Type} {b:aD}
theorem Ex.kL (l:List α)(p:α->Bool)(S:Nat->St)(R F:Out × St)(hR:R.1≠.norm)(hF:F.1≠.norm)
  (round:∀ (j:Nat) (a:α),l[j]?=some a->Ex E b (S j) (if p a then(.norm,S (j+1)) else F)) (last:Ex E b (S l.length) R):Ex E (.loop b) (S 0) (if l.all p then R else F):=by
 have key:∀ (d j:Nat),j+d=l.length->Ex E (.loop b) (S j) (if (l.drop j).all p then R else F):=by
  intro d
  induction d with
  | zero =>
   intro j hj;obtain rfl:j=l.length:=by omega
   rw[List.drop_length];exact Ex.leave last hR
  | succ d ih =>
   intro j hj;have hlt:j<l.length:=by omega
   have hr:=round j _ (List.getElem?_eq_getElem hlt);rw[List.drop_eq_getElem_cons hlt,List.all_cons];cases hp:p l[j] with
   | false =>
    rw[hp]at hr;exact Ex.leave hr hF
   | true =>
    rw[hp]at hr;rw[Bool.true_and];exact Ex.next hr (ih (j+1) (by omega))
 exact key l.length 0 (by omega)
theorem Ex.pY (l:List α)(p:α->Bool)(S:Nat->St)(R:Out × St)(F:Nat->Out × St)(hR:R.1≠.norm)(hF:∀ j,(F j).1≠.norm)
  (round:∀ (j:Nat) (a:α),l[j]?=some a->Ex E b (S j) (if p a then F j else(.norm,S (j+1)))) (last:Ex E b (S l.length) R):Ex E (.loop b) (S 0) (match l.findIdx? p with
   | some j=>F j
   | none=>R):=by
 have key:∀ (d j:Nat),j+d=l.length->(∀ i a,i<j->l[i]?=some a->p a=false)->Ex E (.loop b) (S j) (match l.findIdx? p with
   | some j=>F j
   | none=>R):=by
  intro d
  induction d with
  | zero =>
   intro j hj hno;obtain rfl:j=l.length:=by omega
   have:l.findIdx? p=none:=by
    rw[List.findIdx?_eq_none_iff];intro x hx;obtain⟨i,hi⟩:=List.mem_iff_getElem?.1 hx;exact hno i x (aT hi) hi
   rw[this];exact Ex.leave last hR
  | succ d ih =>
   intro j hj hno;have hlt:j<l.length:=by omega
   have hr:=round j _ (List.getElem?_eq_getElem hlt);cases hp:p l[j] with
   | true =>
    rw[hp]at hr;have:l.findIdx? p=some j:=by
     rw[List.findIdx?_eq_some_iff_getElem];exact⟨hlt,hp,fun i hi=>by rw[hno i _ hi (List.getElem?_eq_getElem (by omega))];simp⟩
    rw[this];exact Ex.leave hr (hF j)
   | false =>
    rw[hp]at hr;refine Ex.next hr (ih (j+1) (by omega) (fun i a hi ha => ?_))
    rcases Nat.lt_or_ge i j with h|h
    ·exact hno i a h ha
    ·obtain rfl:i=j:=by omega
     rw[List.getElem?_eq_getElem hlt]at ha;cases ha;exact hp
 exact key l.length 0 (by omega) (fun i a hi=>by omega)
theorem Ex.fold (l:List α)(f:β->α->β)(z:β)(I:Nat->β->St->Prop)(Q:β->Out × St->Prop)
  (round:∀ (j:Nat) (a:α) (st:St),l[j]?=some a->I j ((l.take j).foldl f z) st->∃ st',Ex E b st (.norm,st')/\I (j+1) (f ((l.take j).foldl f z) a) st')
  (last:∀ st,I l.length (l.foldl f z) st->∃ r,Ex E b st r/\r.1≠.norm/\Q (l.foldl f z) r) {st:St} (h0:I 0 z st):∃ r,Ex E (.loop b) st r/\Q (l.foldl f z) r:=by
 have key:∀ (d j:Nat) (st:St),j+d=l.length->I j ((l.take j).foldl f z) st->∃ r,Ex E (.loop b) st r/\Q (l.foldl f z) r:=by
  intro d
  induction d with
  | zero =>
   intro j st hj hI;obtain rfl:j=l.length:=by omega
   rw[List.take_length]at hI;obtain⟨r,h1,h2,h3⟩:=last st hI;exact⟨r,Ex.leave h1 h2,h3⟩
  | succ d ih =>
   intro j st hj hI;have hlt:j<l.length:=by omega
   obtain⟨st',h1,h2⟩:=round j _ st (List.getElem?_eq_getElem hlt) hI;have h3:(l.take (j+1)).foldl f z=f ((l.take j).foldl f z) l[j]:=by rw[List.take_succ_eq_append_getElem hlt,List.foldl_append];rfl
   rw[<-h3]at h2;obtain⟨r,h4,h5⟩:=ih (j+1) st' (by omega) h2;exact⟨r,h1.next h4,h5⟩
 exact key l.length 0 st (by omega) (by simpa using h0)
end
end
end Fi
namespace Fi.S
open Go Fi
set_option maxHeartbeats 8000000
section
structure Ar (α:Type) where
 f:Int
 l:Int
 t:Int
 x:α
def mH (f l t:Int)(s:Bool)(l1 l2:List D)(c:Int)(b:Bool)(u:Int)(p ps:List D):D:=.a [.v (.int .i64 f),.v (.int .i64 l),.v (.int .i64 t),.v (.bool s),.s 1 l1,.s 1 l2,.v (.int .i64 c),.v (.bool b),.v (.int .u64 u),.s 6 p,.s 8 ps]
variable {α:Type}
def Ar.d (e:α->W)(a:Ar α):D:=.a (.v (.int .i64 a.f)::.v (.int .i64 a.l)::.v (.int .i64 a.t)::(e a.x).d.cells)
theorem Ar.dG (e:α->W)(a:Ar α):∃ s l1 l2 c b u p ps,(e a.x).d=wD s l1 l2 c b u p ps/\a.d e=mH a.f a.l a.t s l1 l2 c b u p ps:=by
 obtain⟨s,l1,l2,c,b,u,p,ps,h⟩:=(e a.x).aW;exact⟨s,l1,l2,c,b,u,p,ps,h,by unfold Ar.d mH;rw[h];rfl⟩
def Vi (x y z:Int):Int:=if x=0 then if y=0 then z else y else x
def gY (a b:Ar α):Int:=Vi (ek a.f b.f) (ek a.l b.l) (ek a.t b.t)
theorem Y7 (n:Nat)(x y z:Int):CL E0 (n+200) 1109 [.d (.s 1 [.v (.int .i64 x),.v (.int .i64 y),.v (.int .i64 z)])] []=some (.d (.v (.int .i64 (Vi x y z))),none):=by
 have w1:ak .i64 1=1:=wrap_i64 (by omega);have w2:ak .i64 2=2:=wrap_i64 (by omega);have w3:ak .i64 3=3:=wrap_i64 (by omega);rw[aA rfl (k1109:E0.fn _=_) rfl];unfold Vi
 by_cases h1:x=0
 ·subst h1
  by_cases h2:y=0
  ·subst h2
   by_cases h3:z=0
   ·subst h3;simp -implicitDefEqProofs[f1109,aG,w1,w2,w3]
   ·have e3:(z != 0)=true:=by simpa using h3
    simp -implicitDefEqProofs[f1109,aG,w1,w2,w3,e3]
  ·have e2:(y != 0)=true:=by simpa using h2
   simp -implicitDefEqProofs[f1109,aG,w1,w2,w3,e2,h2]
 ·have e1:(x != 0)=true:=by simpa using h1
  simp -implicitDefEqProofs[f1109,aG,w1,w2,w3,e1,h1]
theorem uN (e:α->W)(n:Nat)(a b:Ar α):CL E0 (n+400) 1070 [.d (a.d e),.d (b.d e)] []=some (.d (.v (.int .i64 (gY a b))),none):=by
 obtain⟨s,l1,l2,c,i,u,p,ps,_,ea⟩:=a.dG e;obtain⟨s',WS,WT,c',i',u',p',ps',_,eb⟩:=b.dG e;rw[ea,eb];have c1:=fun m=>mP m a.f b.f
 have c2:=fun m=>mP m a.l b.l
 have c3:=fun m=>mP m a.t b.t
 have t:=fun m=>Y7 m (ek a.f b.f) (ek a.l b.l) (ek a.t b.t)
 unfold gY;generalize ek a.f b.f=x,ek a.l b.l=y,ek a.t b.t=z at*;generalize Vi x y z=r at*;rw[aA rfl (k1070:E0.fn _=_) rfl];unfold mH;simp -implicitDefEqProofs[f1070,c1,c2,c3,t]
end
section
variable {α:Type} {e:α->W}
def Y8:aD:=f1208.body.r.bl.lp.r.l.bl.r.bl.lp
def Jn (o av n:Nat)(B:List ae)(i j:Nat)(t:FV)(dt:Bool):St :=
 {vars:=[.ls (.old o) av 11 0 n,.d (.v (.int .i64 0)),.d (.v (.int .i64 n)),.d (.fn 1070),.d (.v (.int .i64 i)),.d (.v (.int .i64 j)),.u,t],base:=B,loc:=[],aO:=dt}
theorem Vj (o av n:Nat)(B:List ae)(i k:Nat)(dt:Bool)(es:List D)(x y:Ar α)(hB:B[o]?=some (.row av 11 es))(hn:es.length=n)(hn2:n<=1000000)(hx:es[k+1]?=some (x.d e))(hy:es[k]?=some (y.d e))(hlt:gY x y<0) :
  Ex E0 Y8 (Jn o av n B i (k+1) .u dt) (.norm,Jn o av n (B.set o (.row av 11 ((es.set (k+1) (y.d e)).set k (x.d e)))) i k .u true):=by
 have t:=fun m=>uN e m x y
 have hol:o<B.length:=(aT hB)
 have hkl:k+1<es.length:=(aT hx)
 have hkn:(k:Int)+1<(n:Int):=by omega
 have hkn2:(k:Int)<(n:Int):=by omega
 have hk0:(0:Int)<=(k:Int):=by omega
 have hk1:(0:Int)<=(k:Int)+1:=by omega
 have hgt:(0:Int)<(k:Int)+1:=by omega
 have tn:((k:Int)+1).toNat=k+1:=by omega
 have hw:ak .i64 (k:Int)=(k:Int):=wrap_i64 (by omega);have hk2:((k+1:Nat):Int)=(k:Int)+1:=by omega
 have s1:∀ r,(es.set (k+1) r)[k]?=some (y.d e):=fun r=>by rw[List.getElem?_set_ne (by omega)];exact hy
 generalize gY x y=od at*;obtain⟨s,l1,l2,c,b,u,p,ps,_,ex⟩:=x.dG e;obtain⟨s',WS,WT,c',b',u',p',ps',_,ey⟩:=y.dG e;simp only[ex,ey]at t hx hy s1 ⊢;clear ex ey;unfold mH at*;generalize x.f=xf,x.l=xl,x.t=xt,y.f=yf,y.l=yl,y.t=yt at*;have lV:k<es.length:=by omega
 refine Ex.of (n:=500) ?_;unfold Jn;rw[hk2];have i1:=idx hx;have i2:=idx hy;have i3:=idx hB;have i4:∀ r (h:k<(es.set (k+1) r).length),(es.set (k+1) r)[k]=_:=fun r h=>idx (s1 r) h
 simp -implicitDefEqProofs[Y8,f1208,t,hol,hkl,hkn,hkn2,hk0,hk1,hgt,tn,hw,hB,hx,hy,s1,i1,i2,i3,i4,hlt,lV,hn]
theorem Vk (o av n:Nat)(B:List ae)(i k:Nat)(dt:Bool)(es:List D)(x y:Ar α)(hB:B[o]?=some (.row av 11 es))(hn:es.length=n)(hn2:n<=1000000)(hx:es[k+1]?=some (x.d e))(hy:es[k]?=some (y.d e))(hlt:¬ gY x y<0) :
  Ex E0 Y8 (Jn o av n B i (k+1) .u dt) (.exit 2,Jn o av n B i (k+1) (.d (.v (.bool false))) dt):=by
 have t:=fun m=>uN e m x y
 have hol:o<B.length:=(aT hB)
 have hkl:k+1<es.length:=(aT hx)
 have hkn:(k:Int)+1<(n:Int):=by omega
 have hkn2:(k:Int)<(n:Int):=by omega
 have hk0:(0:Int)<=(k:Int):=by omega
 have hk1:(0:Int)<=(k:Int)+1:=by omega
 have hgt:(0:Int)<(k:Int)+1:=by omega
 have tn:((k:Int)+1).toNat=k+1:=by omega
 have hw:ak .i64 (k:Int)=(k:Int):=wrap_i64 (by omega);have hk2:((k+1:Nat):Int)=(k:Int)+1:=by omega
 generalize gY x y=od at*;have hge:0<=od:=by omega
 obtain⟨s,l1,l2,c,b,u,p,ps,_,ex⟩:=x.dG e;obtain⟨s',WS,WT,c',b',u',p',ps',_,ey⟩:=y.dG e;simp only[ex,ey]at t hx hy ⊢;clear ex ey;unfold mH at*;generalize x.f=xf,x.l=xl,x.t=xt,y.f=yf,y.l=yl,y.t=yt at*;have lV:k<es.length:=by omega
 refine Ex.of (n:=500) ?_;unfold Jn;rw[hk2];have i1:=idx hx;have i2:=idx hy;have i3:=idx hB;simp -implicitDefEqProofs[Y8,f1208,t,hol,hkl,hkn,hkn2,hk0,hk1,hgt,tn,hw,hB,hx,hy,i1,i2,i3,hlt,lV,hn,hge]
theorem Vl (o av n:Nat)(B:List ae)(i:Nat)(dt:Bool):Ex E0 Y8 (Jn o av n B i 0 .u dt) (.exit 2,Jn o av n B i 0 (.d (.v (.bool false))) dt):=by
 refine Ex.of (n:=100) ?_;unfold Jn;simp -implicitDefEqProofs[Y8,f1208]
end
section
variable {α:Type} {e:α->W}
def dh (x:Ar α)(p:List (Ar α)):Nat->Nat
 | 0=>0
 | j+1=>match p[j]? with
  | some y=>if gY x y<0 then dh x p j else j+1
  | none=>j+1
theorem wG (x:Ar α)(p:List (Ar α)):∀ j,dh x p j<=j
 | 0=>Nat.le_refl _
 | j+1=>by
  unfold dh;split
  ·split
   ·exact Nat.le_succ_of_le (wG x p j)
   ·exact Nat.le_refl _
  ·exact Nat.le_refl _
def p9 (x:Ar α)(p:List (Ar α)):List (Ar α):=p.take (dh x p p.length)++x::p.drop (dh x p p.length)
def a_ (l:List (Ar α)):List (Ar α):=l.foldl (fun p x=>p9 x p) []
theorem Q8 (x:Ar α)(p:List (Ar α)):(p9 x p).length=p.length+1:=by
 unfold p9;have:=wG x p p.length;simp only[List.length_append,List.length_take,List.length_cons,List.length_drop];omega
theorem xE:∀ (l p:List (Ar α)),(l.foldl (fun p x=>p9 x p) p).length=p.length+l.length
 | [],p=>rfl
 | x::l,p=>by rw[List.foldl_cons,xE l,Q8];simp;omega
theorem jW (l:List (Ar α)):(a_ l).length=l.length:=by
 unfold a_;rw[xE];simp
def HV (e:α->W)(p q:List (Ar α))(x:Ar α)(j:Nat):List D:=((p.take j++x::p.drop j)++q).map (Ar.d e)
theorem Vm (p q:List (Ar α))(x:Ar α)(j:Nat)(h:j<=p.length):(HV e p q x j).length=p.length+1+q.length:=by
 unfold HV;simp only[List.length_map,List.length_append,List.length_take,List.length_cons,List.length_drop];omega
theorem WU {p q:List (Ar α)}{x:Ar α}{j:Nat}(h:j<=p.length):(HV e p q x j)[j]?=some (x.d e):=by
 unfold HV;rw[List.getElem?_map,List.append_assoc,List.getElem?_append_right (by simp[Nat.min_eq_left h])];simp[Nat.min_eq_left h]
theorem WV {p q:List (Ar α)}{x y:Ar α}{j:Nat}(h:p[j]?=some y):(HV e p q x (j+1))[j]?=some (y.d e):=by
 have hj:=(aT h)
 unfold HV;rw[List.getElem?_map,List.append_assoc,List.getElem?_append_left (by simp;omega),List.getElem?_take,if_pos (by omega),h];rfl
theorem Q9 {p q:List (Ar α)}{x y:Ar α}{j:Nat}(h:p[j]?=some y):((HV e p q x (j+1)).set (j+1) (y.d e)).set j (x.d e)=HV e p q x j:=by
 obtain⟨hj,hy⟩:=List.getElem?_eq_some_iff.1 h;subst hy;unfold HV;rw[List.take_succ_eq_append_getElem hj,List.drop_eq_getElem_cons hj];simp only[List.map_append,List.map_cons,List.append_assoc,List.cons_append,List.nil_append,List.map_nil];have hl:(List.map (Ar.d e) (List.take j p)).length=j:=by simp;omega
 rw[List.set_append_right _ _ (by omega),List.set_append_right _ _ (by omega),hl];simp
theorem KM (o av n i:Nat)(B:List ae)(ho:o<B.length)(p q:List (Ar α))(x:Ar α)(hn:p.length+1+q.length=n)(hn2:n<=1000000):∀ (j:Nat),j<=p.length->∀ dt,∃ Bp,
  Ex E0 (.loop Y8) (Jn o av n (B.set o (.row av 11 (HV e p q x j))) i j .u dt) (.exit 2,Jn o av n (B.set o (.row av 11 (HV e p q x (dh x p j)))) i (dh x p j) (.d (.v (.bool false))) Bp)/\(Bp=false->dt=false/\dh x p j=j)
 | 0,_,dt=>⟨dt,Ex.leave (Vl o av n _ i dt) (by simp),fun h=>⟨h,rfl⟩⟩
 | j+1,hj,dt=>by
  have hy:p[j]?=some p[j]:=List.getElem?_eq_getElem (by omega);have hl:=Vm (e:=e) p q x (j+1) hj;have hB:(B.set o (.row av 11 (HV e p q x (j+1))))[o]?=some (.row av 11 (HV e p q x (j+1))):=List.getElem?_set_self ho
  by_cases hlt:gY x p[j]<0
  ·have hp:dh x p (j+1)=dh x p j:=by simp only[dh,hy,if_pos hlt]
   rw[hp];have hr:=Vj o av n _ i j dt _ x p[j] hB (by omega) hn2 (WU hj) (WV hy) hlt;rw[Q9 hy,List.set_set]at hr;obtain⟨Bp,h1,h2⟩:=KM o av n i B ho p q x hn hn2 j (by omega) true;exact⟨Bp,hr.next h1,fun h=>absurd (h2 h).1 (by simp)⟩
  ·have hp:dh x p (j+1)=j+1:=by simp only[dh,hy,if_neg hlt]
   rw[hp];exact⟨dt,Ex.leave (Vk o av n _ i j dt _ x p[j] hB (by omega) hn2 (WU hj) (WV hy) hlt) (by simp),fun h=>⟨h,rfl⟩⟩
def p_ (o av n:Nat)(B:List ae)(i:Nat)(t:FV)(dt:Bool):St :=
 {vars:=[.ls (.old o) av 11 0 n,.d (.v (.int .i64 0)),.d (.v (.int .i64 n)),.d (.fn 1070),.d (.v (.int .i64 i)),.u,t,.u],base:=B,loc:=[],aO:=dt}
def Jo:aD:=f1208.body.r.bl.lp
theorem MK (o av n i:Nat)(B:List ae)(ho:o<B.length)(p q:List (Ar α))(x:Ar α)(hp:p.length=i)(hn:p.length+1+q.length=n)(hn2:n<=1000000)(dt:Bool):∃ Bp,
  Ex E0 Jo (p_ o av n (B.set o (.row av 11 ((p++x::q).map (Ar.d e)))) i .u dt) (.norm,p_ o av n (B.set o (.row av 11 ((p9 x p++q).map (Ar.d e)))) (i+1) .u Bp)/\(Bp=false->dt=false/\p9 x p=p++[x]):=by
 obtain⟨Bp,h1,h2⟩:=KM o av n i B ho p q x hn hn2 p.length (Nat.le_refl _) dt;have e0:HV e p q x p.length=(p++x::q).map (Ar.d e):=by unfold HV;simp
 have e1:HV e p q x (dh x p p.length)=(p9 x p++q).map (Ar.d e):=rfl;rw[e0,e1]at h1;refine⟨Bp,?_,fun h=>⟨(h2 h).1,by unfold p9;rw[(h2 h).2];simp⟩⟩;have hin:(i:Int)<(n:Int):=by omega
 have hw:ak .i64 ((i:Int)+1)=(i:Int)+1:=wrap_i64 (by omega);have hi1:((i+1:Nat):Int)=(i:Int)+1:=by omega
 generalize (p++x::q).map (Ar.d e)=e2 at*;generalize (p9 x p++q).map (Ar.d e)=e3,dh x p p.length=j2 at*;rw[hp]at h1;refine Ex.seq (st1:=p_ o av n (B.set o (.row av 11 e2)) i (.d (.v (.bool true))) dt) (Ex.of (n:=60) (by unfold p_;simp -implicitDefEqProofs[Jo,f1208,hin])) ?_;refine Ex.seq (st1:=Jn o av n (B.set o (.row av 11 e3)) i j2 (.d (.v (.bool false))) Bp) (Ex.d9 (Ex.seq (st1:=Jn o av n (B.set o (.row av 11 e2)) i i .u dt) (Ex.of (n:=60) (by unfold p_ Jn;simp -implicitDefEqProofs[Jo,f1208])) (Ex.block h1))) ?_;refine Ex.of (n:=60) ?_;unfold p_ Jn;rw[hi1];simp -implicitDefEqProofs[Jo,f1208,hw]
theorem Gt (o av n i:Nat)(B:List ae)(hi:n<=i)(dt:Bool):Ex E0 Jo (p_ o av n B i .u dt) (.exit 0,p_ o av n B i (.d (.v (.bool false))) dt):=by
 refine Ex.of (n:=60) ?_;have hin:¬ (i:Int)<(n:Int):=by omega
 have hin2:(n:Int)<=(i:Int):=by omega
 unfold p_;simp -implicitDefEqProofs[Jo,f1208,hin,hin2]
theorem Gu (o av:Nat)(B:List ae)(ho:o<B.length)(l:List (Ar α))(hn2:l.length<=1000000):∀ (d i:Nat),i+d=l.length->∀ dt,∃ Bp,
  Ex E0 (.loop Jo) (p_ o av l.length (B.set o (.row av 11 ((a_ (l.take i)++l.drop i).map (Ar.d e)))) i .u dt) (.exit 0,p_ o av l.length (B.set o (.row av 11 ((a_ l).map (Ar.d e)))) l.length (.d (.v (.bool false))) Bp) /\
   (Bp=false->dt=false/\a_ l=a_ (l.take i)++l.drop i)
 | 0,i,hi,dt=>by
  obtain rfl:i=l.length:=by omega
  rw[List.take_length,List.drop_length,List.append_nil];exact⟨dt,Ex.leave (Gt o av _ _ _ (Nat.le_refl _) dt) (by simp),fun h=>⟨h,rfl⟩⟩
 | d+1,i,hi,dt=>by
  have hlt:i<l.length:=by omega
  have e1:a_ (l.take (i+1))=p9 l[i] (a_ (l.take i)):=by
   unfold a_;rw[List.take_succ_eq_append_getElem hlt,List.foldl_append];rfl
  obtain⟨dt1,h1,h2⟩:=MK o av l.length i B ho (a_ (l.take i)) (l.drop (i+1)) l[i] (by rw[jW];simp;omega) (by rw[jW];simp;omega) hn2 dt;rw[<-List.drop_eq_getElem_cons hlt,<-e1]at h1;obtain⟨dt2,h3,h4⟩:=Gu o av B ho l hn2 d (i+1) (by omega) dt1;refine⟨dt2,h1.next h3,fun h => ?_⟩;obtain⟨g1,g2⟩:=h4 h;obtain⟨g3,g4⟩:=h2 g1;refine⟨g3,?_⟩;rw[g2,e1,g4,List.append_assoc,List.singleton_append,<-List.drop_eq_getElem_cons hlt]
def sorted (e:α->W)(o av:Nat)(B:List ae)(l:List (Ar α))(r:FV × Option (List ae)):Prop :=
 (r=(.d (.t []),none)/\a_ l=l)\/r=(.d (.t []),some (B.set o (.row av 11 ((a_ l).map (Ar.d e)))))
theorem Y9 (o av:Nat)(B:List ae)(l:List (Ar α))(hB:B[o]?=some (.row av 11 (l.map (Ar.d e))))(hO:∀ n,B.map (ae.az n)=B)(hn:l.length<=1000000) :
  ∃ r N,(∀ m,CL E0 (N+m) 1208 [.ls (.old o) av 11 0 l.length,.d (.v (.int .i64 0)),.d (.v (.int .i64 l.length)),.d (.fn 1070)] B=some r)/\sorted e o av B l r:=by
 have ho:o<B.length:=(aT hB)
 have hself:B.set o (.row av 11 (l.map (Ar.d e)))=B:=by
  obtain⟨h,e⟩:=List.getElem?_eq_some_iff.1 hB;rw[<-e,List.set_getElem_self]
 have hset:∀ n r,(∀ k,ae.az k r=r)->(B.set o r).map (ae.az n)=B.set o r:=fun n r hr=>by rw[List.map_set,hO,hr]
 obtain⟨dt,st,hrun,hdt,hst⟩:∃ (dt:Bool) (i:Nat),Ex E0 f1208.body (p_ o av l.length B 0 .u false |> fun s=>{s with vars:=[.ls (.old o) av 11 0 l.length,.d (.v (.int .i64 0)),.d (.v (.int .i64 l.length)),.d (.fn 1070),.u,.u,.u,.u]}) (.norm,p_ o av l.length (B.set o (.row av 11 ((a_ l).map (Ar.d e)))) i (.d (.v (.bool false))) dt)/\(dt=false->a_ l=l)/\True:=by
  have h0:Ex E0 f1208.body.l (p_ o av l.length B 0 .u false |> fun s=>{s with vars:=[.ls (.old o) av 11 0 l.length,.d (.v (.int .i64 0)),.d (.v (.int .i64 l.length)),.d (.fn 1070),.u,.u,.u,.u]}) (.norm,p_ o av l.length B 1 .u false):=by
   refine Ex.of (n:=60) ?_;have w1:ak .i64 1=1:=wrap_i64 (by omega);unfold p_;simp -implicitDefEqProofs[f1208,w1]
  cases l with
  | nil =>
   refine⟨false,1,?_,fun _=>rfl,trivial⟩;have h1:=Gt o av 0 1 B (by omega) false;simp only[List.map_nil]at hself;have e1:(a_ ([]:List (Ar α))).map (Ar.d e)=[]:=rfl;rw[e1,hself];exact Ex.seq h0 (Ex.block (Ex.leave h1 (by simp)))
  | cons a l =>
   obtain⟨dt,h1,h2⟩:=Gu o av B ho (a::l) hn l.length 1 (by simp;omega) false;have e1:a_ ((a::l).take 1)++(a::l).drop 1=a::l:=by simp[a_,p9,dh]
   rw[e1,hself]at h1;rw[e1]at h2;exact⟨dt,_,Ex.seq h0 (Ex.block h1),fun h=>(h2 h).2,trivial⟩
 obtain⟨N,hN⟩:=nO (E:=E0) (g:=1208) (F:=f1208) (args:=[.ls (.old o) av 11 0 l.length,.d (.v (.int .i64 0)),.d (.v (.int .i64 l.length)),.d (.fn 1070)]) (B:=B) (o:=.norm)
  (r:=if dt then(.d (.t []),some (B.set o (.row av 11 ((a_ l).map (Ar.d e))))) else(.d (.t []),none)) rfl (k1208:E0.fn _=_) rfl hrun (by simp) (by
   have hm:=hset (B.set o (.row av 11 ((a_ l).map (Ar.d e)))).length (.row av 11 ((a_ l).map (Ar.d e))) (fun _=>rfl);cases dt<;>simp[finish,kz,show f1208.res=[] from rfl,show f1208.ref=true from rfl,eZ,oneOf,mF,ku,jm,p_,FV.az,hset,ae.az,hO])
 refine⟨_,N,hN,?_⟩;cases dt with
 | true=>exact .inr rfl
 | false=>exact .inl ⟨rfl,hdt rfl⟩
end
end Fi.S
namespace Fi.S
open Go Fi
section
section
variable {α:Type}
theorem fD (x y:Int):(ek x y=-1/\x<y)\/(ek x y=0/\x=y)\/(ek x y=1/\y<x):=by
 unfold ek
 by_cases h1:x<y
 ·exact .inl ⟨if_pos h1,h1⟩
 ·by_cases h2:y<x
  ·exact .inr (.inr ⟨by rw[if_neg h1,if_pos h2],h2⟩)
  ·exact .inr (.inl ⟨by rw[if_neg h1,if_neg h2],by omega⟩)
def iX (a b:Ar α):Prop:=a.f<b.f\/a.f=b.f/\(a.l<b.l\/a.l=b.l/\a.t<b.t)
def uO (a b:Ar α):Prop:=a.f=b.f/\a.l=b.l/\a.t=b.t
theorem Eh (a b:Ar α):gY a b<0↔iX a b:=by
 unfold gY Vi iX;rcases fD a.f b.f with ⟨h,h'⟩|⟨h,h'⟩|⟨h,h'⟩<;>rcases fD a.l b.l with ⟨k,k'⟩|⟨k,k'⟩|⟨k,k'⟩<;>rcases fD a.t b.t with ⟨m,m'⟩|⟨m,m'⟩|⟨m,m'⟩<;>simp only[h,k,m]<;>simp<;>omega
theorem uP (a b:Ar α):gY a b=0↔uO a b:=by
 unfold gY Vi uO;rcases fD a.f b.f with ⟨h,h'⟩|⟨h,h'⟩|⟨h,h'⟩<;>rcases fD a.l b.l with ⟨k,k'⟩|⟨k,k'⟩|⟨k,k'⟩<;>rcases fD a.t b.t with ⟨m,m'⟩|⟨m,m'⟩|⟨m,m'⟩<;>simp only[h,k,m]<;>simp<;>omega
theorem lF (a b:Ar α):iX a b\/uO a b\/iX b a:=by unfold iX uO;omega
theorem xG {a b:Ar α}(h:uO a b):¬ iX a b:=by unfold iX uO at*;omega
theorem wH {a b:Ar α}(h:iX a b):¬ iX b a:=by unfold iX at*;omega
theorem yL {a b:Ar α}(h:iX a b):¬ uO a b:=by unfold iX uO at*;omega
theorem Q_ {a b:Ar α}(h:iX a b):¬ uO b a:=by unfold iX uO at*;omega
theorem ab4 {a b c:Ar α}(h:¬ iX b a)(k:iX b c):iX a c:=by unfold iX at*;omega
theorem WW {a b c:Ar α}(h:iX a b)(k:¬ iX c b):iX a c:=by unfold iX at*;omega
theorem ab5 {a b c:Ar α}(h:¬ iX b a)(k:¬ iX c b):¬ iX c a:=by unfold iX at*;omega
def iQ (pl:α->α->α)(a b:Ar α):Ar α:={a with x:=pl a.x b.x}
theorem Vn {pl:α->α->α}{a b c:Ar α}:uO (iQ pl a b) c↔uO a c:=Iff.rfl
instance (a b:Ar α):Decidable (iX a b):=by unfold iX;exact inferInstance
instance (a b:Ar α):Decidable (uO a b):=by unfold uO;exact inferInstance
def nQ (x:Ar α):List (Ar α)->List (Ar α)
 | []=>[x]
 | y::r=>if iX x y then x::y::r else y::nQ x r
def uj (pl:α->α->α)(a:Ar α):List (Ar α)->List (Ar α)
 | []=>[a]
 | b::r=>if uO a b then uj pl (iQ pl a b) r else a::uj pl b r
def mg (pl:α->α->α):List (Ar α)->List (Ar α)
 | []=>[]
 | a::r=>uj pl a r
def bX (pl:α->α->α)(x:Ar α):List (Ar α)->List (Ar α)
 | []=>[x]
 | y::r=>if iX y x then y::bX pl x r else if uO y x then iQ pl y x::r else x::y::r
abbrev x_ (l:List (Ar α)):Prop:=l.Pairwise fun a b=>¬ iX b a
theorem Gv (pl:α->α->α):∀ (r:List (Ar α)) (a:Ar α),∃ y t,uj pl a r=y::t/\uO y a
 | [],a=>⟨a,[],rfl,rfl,rfl,rfl⟩
 | b::r,a=>by
  unfold uj;split
  ·obtain⟨y,t,h1,h2⟩:=Gv pl r (iQ pl a b);exact⟨y,t,h1,h2⟩
  ·exact⟨a,_,rfl,rfl,rfl,rfl⟩
theorem uQ {pl:α->α->α}{x:Ar α}(r:List (Ar α)){a:Ar α}(h:iX x a):bX pl x (uj pl a r)=x::uj pl a r:=by
 obtain⟨y,t,h1,h2⟩:=Gv pl r a;have h3:iX x y:=by unfold iX uO at*;omega
 rw[h1,bX,if_neg (wH h3),if_neg (Q_ h3)]
theorem Ei (pl:α->α->α)(x:Ar α):∀ (r:List (Ar α)) (a:Ar α),x_ (a::r)->¬ iX x a->uj pl a (nQ x r)=bX pl x (uj pl a r)
 | [],a,_,h=>by
  simp only[nQ,uj]
  by_cases he:uO a x
  ·rw[if_pos he,bX,if_neg (xG he),if_pos he]
  ·have hlt:iX a x:=by
    rcases lF a x with h1|h1|h1
    ·exact h1
    ·exact absurd h1 he
    ·exact absurd h1 h
   rw[if_neg he,bX,if_pos hlt];rfl
 | b::r,a,hs,h=>by
  obtain⟨hab,hs2⟩:=List.pairwise_cons.1 hs;have aen:=hab b (by simp);unfold nQ
  by_cases hxb:iX x b
  ·rw[if_pos hxb];have ab6:iX a b:=ab4 h hxb;have e1:uj pl a (b::r)=a::uj pl b r:=by rw[uj,if_neg (yL ab6)]
   rw[e1]
   by_cases he:uO a x
   ·have e2:uj pl (iQ pl a x) (b::r)=iQ pl a x::uj pl b r:=by rw[uj,if_neg (fun h'=>yL ab6 (Vn.1 h'))]
    rw[uj,if_pos he,e2,bX,if_neg (xG he),if_pos he]
   ·have hlt:iX a x:=by
     rcases lF a x with h1|h1|h1
     ·exact h1
     ·exact absurd h1 he
     ·exact absurd h1 h
    have e2:uj pl x (b::r)=x::uj pl b r:=by rw[uj,if_neg (yL hxb)]
    rw[uj,if_neg he,e2,bX,if_pos hlt,uQ r hxb]
  ·rw[if_neg hxb]
   by_cases he:uO a b
   ·have hs3:x_ (iQ pl a b::r):=List.pairwise_cons.2 ⟨fun c hc=>hab c (by simp[hc]),(List.pairwise_cons.1 hs2).2⟩;rw[uj,if_pos he,Ei pl x r (iQ pl a b) hs3 h,uj,if_pos he]
   ·have hlt:iX a b:=by
     rcases lF a b with h1|h1|h1
     ·exact h1
     ·exact absurd h1 he
     ·exact absurd h1 aen
    rw[uj,if_neg he,Ei pl x r b hs2 hxb,uj,if_neg he,bX,if_pos (WW hlt hxb)]
theorem Y_ (pl:α->α->α)(x:Ar α):∀ (s:List (Ar α)),x_ s->mg pl (nQ x s)=bX pl x (mg pl s)
 | [],_=>rfl
 | a::r,hs=>by
  unfold nQ
  by_cases h:iX x a
  ·rw[if_pos h]
   change uj pl x (a::r)=bX pl x (uj pl a r)
   rw[uQ r h,uj,if_neg (yL h)]
  ·rw[if_neg h];exact Ei pl x r a hs h
theorem Gw {x:Ar α}:∀ {s:List (Ar α)} {y:Ar α},y ∈ nQ x s->y=x\/y ∈ s
 | [],y,h=>by simp[nQ]at h;exact .inl h
 | a::r,y,h=>by
  unfold nQ at h;split at h
  ·simpa using h
  ·rcases List.mem_cons.1 h with h|h
   ·exact .inr (by simp[h])
   ·rcases Gw h with h|h
    ·exact .inl h
    ·exact .inr (by simp[h])
theorem Ak (x:Ar α):∀ {s:List (Ar α)},x_ s->x_ (nQ x s)
 | [],_=>by simp[nQ,x_]
 | a::r,hs=>by
  obtain⟨h1,h2⟩:=List.pairwise_cons.1 hs;unfold nQ;split
  ·rename_i h;refine List.pairwise_cons.2 ⟨fun c hc => ?_,hs⟩;rcases List.mem_cons.1 hc with rfl|hc
   ·exact wH h
   ·exact wH (WW h (h1 c hc))
  ·rename_i h;refine List.pairwise_cons.2 ⟨fun c hc => ?_,Ak x h2⟩;rcases Gw hc with rfl|hc
   ·exact h
   ·exact h1 c hc
theorem Al (x:Ar α)(v:List (Ar α))(hv:∀ y,v.head?=some y->iX x y):∀ (u:List (Ar α)),(∀ y ∈ u,¬ iX x y)->nQ x (u++v)=u++x::v
 | [],_=>by
  cases v with
  | nil=>rfl
  | cons y r=>simp only[List.nil_append,nQ];rw[if_pos (hv y rfl)]
 | a::u,h=>by
  rw[List.cons_append,nQ,if_neg (h a (by simp)),Al x v hv u (fun y hy=>h y (by simp[hy]))];rfl
theorem xH (x:Ar α)(p:List (Ar α)):∀ j,j<=p.length->(∀ i y,dh x p j<=i->i<j->p[i]?=some y->iX x y)/\(∀ y,0<dh x p j->p[dh x p j-1]?=some y->¬ iX x y)
 | 0,_=>⟨fun i y h1 h2=>by omega,fun y h=>by simp[dh]at h⟩
 | j+1,hj=>by
  have hy:p[j]?=some p[j]:=List.getElem?_eq_getElem (by omega);obtain⟨h1,h2⟩:=xH x p j (by omega)
  by_cases hlt:gY x p[j]<0
  ·have hp:dh x p (j+1)=dh x p j:=by simp only[dh,hy,if_pos hlt]
   rw[hp];refine⟨fun i y g1 g2 g3 => ?_,h2⟩;rcases Nat.lt_or_ge i j with h|h
   ·exact h1 i y g1 h g3
   ·obtain rfl:i=j:=by omega
    rw[hy]at g3;cases g3;exact(Eh _ _).1 hlt
  ·have hp:dh x p (j+1)=j+1:=by simp only[dh,hy,if_neg hlt]
   rw[hp];refine⟨fun i y g1 g2=>by omega,fun y _ g => ?_⟩;simp only[Nat.add_sub_cancel]at g;rw[hy]at g;cases g;exact fun h=>hlt ((Eh _ _).2 h)
theorem Vo (x:Ar α){p:List (Ar α)}(hs:x_ p):p9 x p=nQ x p:=by
 obtain⟨h1,h2⟩:=xH x p p.length (Nat.le_refl _);have hle:=wG x p p.length;generalize hk:dh x p p.length=k at*;have:=Al x (p.drop k) (fun y hy=>by
  rw[List.head?_drop]at hy;exact h1 k y (Nat.le_refl _) (aT hy) hy) (p.take k) (fun y hy=>by
  obtain⟨i,hi⟩:=List.mem_iff_getElem?.1 hy;rw[List.getElem?_take]at hi;split at hi
  ·rename_i hik;have hlast:p[k-1]?=some p[k-1]:=List.getElem?_eq_getElem (by omega);have h3:=h2 p[k-1] (by omega) hlast;rcases Nat.lt_or_ge i (k-1) with h|h
   ·have hii:=(List.getElem?_eq_some_iff.1 hi)
    have h4:=List.pairwise_iff_getElem.1 hs i (k-1) hii.1 (by omega) h;rw[hii.2]at h4;exact ab5 h4 h3
   ·obtain rfl:i=k-1:=by omega
    rw[hlast]at hi;cases hi;exact h3
  ·cases hi)
 rw[List.take_append_drop]at this;unfold p9;rw[hk,this]
theorem Am:∀ (l p:List (Ar α)),x_ p->l.foldl (fun p x=>p9 x p) p=l.foldl (fun p x=>nQ x p) p/\x_ (l.foldl (fun p x=>nQ x p) p)
 | [],p,h=>⟨rfl,h⟩
 | x::l,p,h=>by
  rw[List.foldl_cons,List.foldl_cons,Vo x h];exact Am l _ (Ak x h)
theorem Ra (pl:α->α->α):∀ (l p:List (Ar α)),x_ p->mg pl (l.foldl (fun p x=>nQ x p) p)=l.foldl (fun p x=>bX pl x p) (mg pl p)
 | [],p,h=>rfl
 | x::l,p,h=>by
  rw[List.foldl_cons,List.foldl_cons,Ra pl l _ (Ak x h),Y_ pl x p h]
def dU (pl:α->α->α)(l:List (Ar α)):List (Ar α):=l.foldl (fun p x=>bX pl x p) []
theorem Vp (pl:α->α->α)(l:List (Ar α)):mg pl (a_ l)=dU pl l:=by
 unfold a_ dU;rw[(Am l [] (by simp[x_])).1];exact Ra pl l [] (by simp[x_])
def jD (pl:α->α->α)(out:List (Ar α))(x:Ar α):List (Ar α) :=
 match out.getLast? with
 | some y=>if uO y x then out.dropLast++[iQ pl y x] else out++[x]
 | none=>[x]
theorem jX (pl:α->α->α)(p:List (Ar α))(y x:Ar α):jD pl (p++[y]) x=if uO y x then p++[iQ pl y x] else p++[y]++[x]:=by
 unfold jD;simp
theorem qi (pl:α->α->α):∀ (r p:List (Ar α)) (a:Ar α),r.foldl (jD pl) (p++[a])=p++uj pl a r
 | [],p,a=>rfl
 | b::r,p,a=>by
  rw[List.foldl_cons,jX,uj];split
  ·exact qi pl r p _
  ·rw[qi pl r (p++[a]) b,List.append_assoc];rfl
theorem Vq (pl:α->α->α)(s:List (Ar α)):s.foldl (jD pl) []=mg pl s:=by
 cases s with
 | nil=>rfl
 | cons a r =>
  rw[List.foldl_cons];exact qi pl r [] a
end
end
end Fi.S
namespace Fi.S
open Go Fi
set_option maxHeartbeats 8000000
section
variable {α:Type} {e:α->W}
theorem Ej (o av:Nat)(B:List ae)(l:List (Ar α))(hB:B[o]?=some (.row av 11 (l.map (Ar.d e))))(hO:∀ n,B.map (ae.az n)=B)(hn:l.length<20) :
  ∃ r N,(∀ m,CL E0 (N+m) 1138 [.ls (.old o) av 11 0 l.length,.d (.v (.int .i64 l.length)),.d (.fn 1070)] B=some r)/\sorted e o av B l r:=by
 obtain⟨r,N,t,hs⟩:=Y9 o av B l hB hO (by omega);refine⟨r,N+200,fun m => ?_,hs⟩;have h1:¬ (20:Int)<=(l.length:Int):=by omega
 have h2:¬ (20:Int)<(l.length:Int):=by omega
 have h1':(l.length:Int)<20:=by omega
 have h2':(l.length:Int)<=20:=by omega
 have hne:N+200+m=(N+m)+200:=by omega
 have hB0:B≠[]:=by intro h;rw[h]at hB;cases hB
 rw[hne,aA rfl (k1138:E0.fn _=_) rfl];replace t:=fun k=>dM (t 0) (show N+0<=N+m+k by omega)
 rcases hs with ⟨rfl,_⟩|rfl
 ·generalize l.length=n at*;simp -implicitDefEqProofs[f1138,aG,t,hO,h1,h2,h1',h2',FV.az,FV.aN,mF]
 ·have hO1:∀ k,(B.set o (.row av 11 ((a_ l).map (Ar.d e)))).map (ae.az k)=B.set o (.row av 11 ((a_ l).map (Ar.d e))):=fun k=>by rw[List.map_set,hO];rfl
  have tk:(B.set o (.row av 11 ((a_ l).map (Ar.d e)))).take B.length=B.set o (.row av 11 ((a_ l).map (Ar.d e))):=List.take_of_length_le (by simp);have dp:(B.set o (.row av 11 ((a_ l).map (Ar.d e)))).drop B.length=[]:=List.drop_of_length_le (by simp);generalize B.set o (.row av 11 ((a_ l).map (Ar.d e)))=B1,l.length=n at*;simp -implicitDefEqProofs[f1138,aG,t,hB0,hO,hO1,tk,dp,h1,h2,h1',h2',FV.az,FV.aN,mF]
theorem ML (o av:Nat)(B:List ae)(l:List (Ar α))(hB:B[o]?=some (.row av 11 (l.map (Ar.d e))))(hO:∀ n,B.map (ae.az n)=B)(hn:l.length<20) :
  ∃ r N,(∀ m,CL E0 (N+m) 1101 [.ls (.old o) av 11 0 l.length,.d (.fn 1070)] B=some r)/\sorted e o av B l r:=by
 obtain⟨r,N,t,hs⟩:=Ej o av B l hB hO hn;refine⟨r,N+200,fun m => ?_,hs⟩;have hne:N+200+m=(N+m)+200:=by omega
 have hB0:B≠[]:=by intro h;rw[h]at hB;cases hB
 rw[hne,aA rfl (k1101:E0.fn _=_) rfl];replace t:=fun k=>dM (t 0) (show N+0<=N+m+k by omega)
 rcases hs with ⟨rfl,_⟩|rfl
 ·generalize l.length=n at*;simp -implicitDefEqProofs[f1101,t,hO,FV.az,FV.aN,mF]
 ·have hO1:∀ k,(B.set o (.row av 11 ((a_ l).map (Ar.d e)))).map (ae.az k)=B.set o (.row av 11 ((a_ l).map (Ar.d e))):=fun k=>by rw[List.map_set,hO];rfl
  have tk:(B.set o (.row av 11 ((a_ l).map (Ar.d e)))).take B.length=B.set o (.row av 11 ((a_ l).map (Ar.d e))):=List.take_of_length_le (by simp);have dp:(B.set o (.row av 11 ((a_ l).map (Ar.d e)))).drop B.length=[]:=List.drop_of_length_le (by simp);generalize B.set o (.row av 11 ((a_ l).map (Ar.d e)))=B1,l.length=n at*;simp -implicitDefEqProofs[f1101,t,hB0,hO,hO1,tk,dp,FV.az,FV.aN,mF]
end
end Fi.S
namespace Fi.S
open Go Fi
section
variable {α:Type}
structure KN (kk:Int)(ps:List Int)(e:α->W)(pl:α->α->α)(z:W)(eQ:α->Bool)(G:Nat->α->Prop)(m:Nat):Prop where
 mono:∀ n x,G n x->G (n+1) x
 zero:Ca E1 26 [.d (bG kk ps)] (.d z.d,none)
 pz:∀ x,G 1 x->Ca E1 14 [.d (bG kk ps),.d (e x).d,.d z.d] (.d (e x).d,none)
 tk:∀ x,G 1 x->Ca E1 53 [.d (bG kk ps),.d (e x).d] (.d (e x).d,none)
 p1:∀ n x y,n<m->G n x->G 1 y->Ca E1 14 [.d (bG kk ps),.d (e x).d,.d (e y).d] (.d (e (pl x y)).d,none)
 p2:∀ n x y,n<m->G n x->G 1 y->Ca E1 19 [.d (bG kk ps),.d (e x).d,.d (e y).d] (.d (e (pl x y)).d,none)
 pg:∀ n x y,n<m->G n x->G 1 y->G (n+1) (pl x y)
 z1:∀ n x,n<=m->G n x->Ca E1 1104 [.d (bG kk ps),.d (e x).d] (.d (.v (.bool (eQ x))),none)
 z2:∀ n x,n<=m->G n x->Ca E1 1126 [.d (bG kk ps),.d (e x).d] (.d (.v (.bool (eQ x))),none)
theorem KN.up {kk:Int}{ps:List Int}{e:α->W}{pl:α->α->α}{z:W}{eQ:α->Bool}{G:Nat->α->Prop}{m:Nat}(h:KN kk ps e pl z eQ G m){x:α}(hx:G 1 x):∀ n,G (n+1) x
 | 0=>hx
 | n+1=>h.mono _ _ (h.up hx n)
def wI (x:Ar α)(aq:List (Ar α)):Nat:=(aq.findIdx? fun y => !decide (iX y x)).getD aq.length
theorem Vr (x:Ar α)(aq:List (Ar α)):wI x aq<=aq.length:=by
 unfold wI;cases h:aq.findIdx? (fun y => !decide (iX y x)) with
 | none=>exact Nat.le_refl _
 | some k =>
  rw[List.findIdx?_eq_some_iff_getElem]at h;exact Nat.le_of_lt h.1
theorem Cz (x a:Ar α)(aq:List (Ar α)):wI x (a::aq)=if iX a x then wI x aq+1 else 0:=by
 unfold wI;rw[List.findIdx?_cons]
 by_cases h:iX a x
 ·simp only[h,decide_true,Bool.not_true,Bool.false_eq_true,if_false,if_true];cases aq.findIdx? (fun y => !decide (iX y x))<;>simp
 ·simp[h]
theorem Ao (pl:α->α->α)(x:Ar α):∀ aq:List (Ar α),(∀ y,aq[wI x aq]?=some y->¬ uO y x)->bX pl x aq=aq.take (wI x aq)++x::aq.drop (wI x aq)
 | [],_=>rfl
 | a::aq,h=>by
  rw[Cz]at h ⊢
  by_cases hl:iX a x
  ·rw[if_pos hl]at h ⊢;rw[bX,if_pos hl,Ao pl x aq (fun y hy=>h y (by simpa using hy))];rfl
  ·rw[if_neg hl]at h ⊢;rw[bX,if_neg hl,if_neg (h a rfl)];rfl
theorem xI (pl:α->α->α)(x y:Ar α):∀ aq:List (Ar α),aq[wI x aq]?=some y->uO y x->bX pl x aq=aq.set (wI x aq) (iQ pl y x)
 | [],h,_=>by simp at h
 | a::aq,h,he=>by
  rw[Cz]at h ⊢
  by_cases hl:iX a x
  ·rw[if_pos hl]at h ⊢;rw[bX,if_pos hl,xI pl x y aq (by simpa using h) he];rfl
  ·rw[if_neg hl]at h ⊢;simp at h;subst h;rw[bX,if_neg hl,if_pos he];rfl
theorem tq (pl:α->α->α)(x:Ar α):∀ aq:List (Ar α),(bX pl x aq).length<=aq.length+1
 | []=>by simp[bX]
 | a::aq=>by
  unfold bX;have:=tq pl x aq;split
  ·simp;omega
  ·split<;>simp
theorem tu (pl:α->α->α)(x:Ar α)(P Q:Ar α->Prop)(hx:Q x)(Za:∀ y,P y->Q y)(hpl:∀ y,P y->Q (iQ pl y x)):∀ aq:List (Ar α),(∀ y ∈ aq,P y)->∀ y ∈ bX pl x aq,Q y
 | [],_,y,hy=>by simp[bX]at hy;subst hy;exact hx
 | a::aq,h,y,hy=>by
  unfold bX at hy;split at hy
  ·rcases List.mem_cons.1 hy with rfl|hy
   ·exact Za _ (h _ (by simp))
   ·exact tu pl x P Q hx Za hpl aq (fun y hy=>h y (by simp[hy])) y hy
  ·split at hy
   ·rcases List.mem_cons.1 hy with rfl|hy
    ·exact hpl _ (h _ (by simp))
    ·exact Za _ (h _ (by simp[hy]))
   ·rcases List.mem_cons.1 hy with rfl|hy
    ·exact hx
    ·exact Za _ (h _ hy)
theorem Jp (pl:α->α->α)(x:Ar α)(P Q:Ar α->Prop)(hx:Q x)(Za:∀ y,P y->Q y)(hpl:∀ y,P y->Q (iQ pl y x))(aq:List (Ar α))(h:∀ y ∈ aq,P y):∀ y ∈ jD pl aq x,Q y:=by
 intro y hy;rcases List.eq_nil_or_concat aq with rfl|⟨q,a,rfl⟩
 ·simp[jD]at hy;subst hy;exact hx
 ·rw[List.concat_eq_append]at*;rw[jX]at hy;split at hy
  ·rcases List.mem_append.1 hy with hy|hy
   ·exact Za _ (h _ (by simp[hy]))
   ·simp at hy;subst hy;exact hpl _ (h _ (by simp))
  ·rcases List.mem_append.1 hy with hy|hy
   ·exact Za _ (h _ hy)
   ·simp at hy;subst hy;exact hx
theorem Jq (pl:α->α->α)(x:Ar α)(aq:List (Ar α)):(jD pl aq x).length<=aq.length+1:=by
 rcases List.eq_nil_or_concat aq with rfl|⟨q,a,rfl⟩
 ·simp[jD]
 ·rw[List.concat_eq_append,jX];split<;>simp
theorem Rb {x:Ar α}{p:List (Ar α)}{y:Ar α}(h:y ∈ p9 x p):y=x\/y ∈ p:=by
 unfold p9 at h;rcases List.mem_append.1 h with h|h
 ·exact .inr (List.mem_of_mem_take h)
 ·rcases List.mem_cons.1 h with h|h
  ·exact .inl h
  ·exact .inr (List.mem_of_mem_drop h)
theorem xJ:∀ (l p:List (Ar α)) {y:Ar α},y ∈ l.foldl (fun p x=>p9 x p) p->y ∈ p\/y ∈ l
 | [],p,y,h=>.inl h
 | x::l,p,y,h=>by
  rw[List.foldl_cons]at h;rcases xJ l _ h with h|h
  ·rcases Rb h with h|h
   ·exact .inr (by simp[h])
   ·exact .inl h
  ·exact .inr (by simp[h])
theorem Gx {l:List (Ar α)}{y:Ar α}(h:y ∈ a_ l):y ∈ l:=by
 rcases xJ l [] h with h|h
 ·simp at h
 ·exact h
end
end Fi.S
noncomputable section
namespace Fi.S
open Go Fi
set_option maxHeartbeats 8000000
set_option maxRecDepth 10000
theorem MM {k:Int}(hk:single k=true){S T M M':Nat}(hS:1<=S)(hT:1<=T){x y:Sv}(hx:x.of k S M)(hy:y.of k T M'):(dS k x y).of k (S+T+1) (M+M'):=by
 rcases bL hk with rfl|rfl|rfl|rfl|rfl
 ·obtain⟨a,rfl,h1⟩:=of1 hx;obtain⟨b,rfl,h2⟩:=of1 hy;refine⟨.inl rfl,?_⟩;have:=vZ a b;show qz (a+b)<=_;omega
 ·obtain⟨a,n,rfl,h1⟩:=of2 hx;obtain⟨b,m,rfl,h2⟩:=of2 hy;show Sv.of 2 _ _ (if uJ b m a n then .c b m else .c a n);split
  ·exact hy
  ·exact hx
 ·obtain⟨a,rfl,h1⟩:=of3 hx;obtain⟨b,rfl,h2⟩:=of3 hy;show Sv.of 3 _ _ (if a<b then .q b else .q a);split
  ·exact Sv.of.mono hy (by omega) (by omega)
  ·exact Sv.of.mono hx (by omega) (by omega)
 ·obtain⟨a,rfl,h1⟩:=of4 hx;obtain⟨b,rfl,h2⟩:=of4 hy;exact⟨rfl,Vd a b⟩
 ·obtain⟨a,rfl,h1,h2⟩:=of5 hx;obtain⟨b,rfl,h3,h4⟩:=of5 hy;exact⟨rfl,z_ hS hT h1 h3,Nat.le_trans (Gf a b) (Nat.add_le_add h2 h4)⟩
theorem Jr {S T M M':Nat}(hS:1<=S)(hT:1<=T){ps:List Int}(hs:∀ k ∈ ps,single k=true){xs ys:List Sv}(hx:oU S M ps xs)(hy:oU T M' ps ys):oU (S+T+1) (M+M') ps (kE ps xs ys):=by
 refine⟨by simp[kE,hx.1,hy.1],fun i k z hk hz => ?_⟩;obtain⟨k',x,y,h1,h2,h3,rfl⟩:=Af hz;rw[hk]at h1;cases h1;exact MM (hs k (List.mem_of_getElem? hk)) hS hT (hx.2 i k x hk h2) (hy.2 i k y hk h3)
def wJ (kk:Int)(ps:List Int):List Sv:=(lW kk ps).map gD
def Re (kk:Int)(ps:List Int)(xs:List Sv):Bool:=(h_ kk xs).eq (h_ kk (wJ kk ps))
def xK (kk:Int)(ps:List Int)(n:Nat)(xs:List Sv):Prop:=1<=n/\oU (4*n-1) (8*n) (lW kk ps) xs
theorem Rf {kk:Int}{ps:List Int}(hv:aQ kk ps=true){S M:Nat}{xs:List Sv}(hS:S<=1000)(hx:oU S M (lW kk ps) xs) :
  Ca E1 1104 [.d (bG kk ps),.d (h_ kk xs).d] (.d (.v (.bool (Re kk ps xs))),none)/\Ca E1 1126 [.d (bG kk ps),.d (h_ kk xs).d] (.d (.v (.bool (Re kk ps xs))),none):=by
 have ok1:=Gp hv hS hx;have ok0:(h_ kk (wJ kk ps)).OK:=Gp hv (S:=1) (M:=1) (by omega) (wF (by omega) (jC hv));obtain⟨K,hK,a1,a2,a3,a4⟩:=((Ca.iP (iT _ ok1 _ ok0)).j ((Ca.iP (qQ _ ok1 _ ok0)).j ((Cy hv).j ((Vh hv).any)))).at 0;unfold Re;rw[show(lW kk ps).map gD=wJ kk ps from rfl]at a3 a4;generalize (h_ kk xs).eq (h_ kk (wJ kk ps))=b at*;obtain⟨xs',xl1,xl2,xc,xb,xu,xp,xq,ex⟩:=(h_ kk xs).aW;obtain⟨zs,EY,EZ,zc,zb,zu,zp,zq,ez⟩:=(h_ kk (wJ kk ps)).aW;simp only[ex,ez]at*;clear ok1 ok0 hx ex ez hv;unfold wD bG at*;generalize LK .i64 ps=l9 at*;refine⟨?_,?_⟩
 ·refine Ca.bO (n:=K+100) ?_;rw[aA rfl (k1104:E1.fn _=_) rfl];simp -implicitDefEqProofs[f1104,a1,a3]
 ·refine Ca.bO (n:=K+100) ?_;rw[aA rfl (k1126:E1.fn _=_) rfl];simp -implicitDefEqProofs[f1126,a2,a4]
theorem aeo {kk:Int}{ps:List Int}(hv:aQ kk ps=true):KN kk ps (h_ kk) (kE (lW kk ps)) (h_ kk (wJ kk ps)) (Re kk ps) (xK kk ps) 20 where
 mono n x h:=⟨by omega,h.2.mono (by omega) (by omega)⟩
 zero:=Cy hv
 pz x h:=by
  have h3:oU 3 8 (lW kk ps) x:=h.2;have:=KH hv (by omega) (by omega) h3 (wF (M:=8) (by omega) (jC hv));rw[Jm (S:=3) (M:=8) (by omega) (jC hv) h3]at this;exact this
 tk x h:=Eg hv (by omega) (by omega) h.2
 p1 n x y hn hx hy:=by
  have h1:=hx.1;refine KH hv (S:=75) (M:=152) (by omega) (by omega) (hx.2.mono (by omega) (by omega)) (hy.2.mono (by omega) (by omega))
 p2 n x y hn hx hy:=by
  have h1:=hx.1;refine Q7 hv (S:=75) (M:=152) (by omega) (by omega) (hx.2.mono (by omega) (by omega)) (hy.2.mono (by omega) (by omega))
 pg n x y hn hx hy:=by
  have h1:=hx.1;exact⟨by omega,(Jr (by omega) (by omega) (jC hv) hx.2 hy.2).mono (by omega) (by omega)⟩
 z1 n x hn hx:=(Rf hv (by omega) hx.2).1
 z2 n x hn hx:=(Rf hv (by omega) hx.2).2
end Fi.S
