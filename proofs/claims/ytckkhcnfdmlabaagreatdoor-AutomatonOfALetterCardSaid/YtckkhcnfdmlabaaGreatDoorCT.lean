import Derived.Test.YtckkhcnfdmlabaaGreatDoorCS
set_option linter.unusedVariables false
set_option linter.unusedSimpArgs false
noncomputable section
namespace Fi.S
open Go Fi
set_option maxHeartbeats 8000000
section
variable {α:Type} {e:α->W}
theorem Vz (n:Nat)(x y z x' y' z':Int):CL E0 (n+300) 1090 [.d (.s 1 [.v (.int .i64 x),.v (.int .i64 y),.v (.int .i64 z)]),.d (.s 1 [.v (.int .i64 x'),.v (.int .i64 y'),.v (.int .i64 z')])] [] =
  some (.d (.v (.int .i64 (Zc (fD x x') (fD y y') (fD z z')))),none):=by
 have w1:ak .i64 1=1:=wrap_i64 (by omega);have w2:ak .i64 2=2:=wrap_i64 (by omega);have w3:ak .i64 3=3:=wrap_i64 (by omega);rw[av rfl (k1090:E0.fn _=_) rfl];unfold Zc;rcases f_ x x' with ⟨h,h'⟩|⟨h,h'⟩|⟨h,h'⟩
 ·rw[h,if_neg (by omega)];simp -implicitDefEqProofs[f1090,aC,w1,w2,w3,h']
 ·subst h';rw[h,if_pos rfl];rcases f_ y y' with ⟨k,k'⟩|⟨k,k'⟩|⟨k,k'⟩
  ·rw[k,if_neg (by omega)];simp -implicitDefEqProofs[f1090,aC,w1,w2,w3,k']
  ·subst k';rw[k,if_pos rfl];rcases f_ z z' with ⟨m,m'⟩|⟨m,m'⟩|⟨m,m'⟩
   ·rw[m];simp -implicitDefEqProofs[f1090,aC,w1,w2,w3,m']
   ·subst m';rw[m];simp -implicitDefEqProofs[f1090,aC,w1,w2,w3]
   ·have m2:¬ z<z':=by omega
    rw[m];simp -implicitDefEqProofs[f1090,aC,w1,w2,w3,m',m2]
  ·have k2:¬ y<y':=by omega
   rw[k,if_neg (by omega)];simp -implicitDefEqProofs[f1090,aC,w1,w2,w3,k',k2]
 ·have h2:¬ x<x':=by omega
  rw[h,if_neg (by omega)];simp -implicitDefEqProofs[f1090,aC,w1,w2,w3,h',h2]
theorem QD (e:α->W)(n:Nat)(a b:Ar α):CL E0 (n+400) 1047 [.d (a.d e),.d (b.d e)] []=some (.d (.v (.int .i64 (iW a b))),none):=by
 obtain⟨s,l1,l2,c,i,u,p,ps,_,ea⟩:=a.dN e;obtain⟨s',l1',l2',c',i',u',p',ps',_,eb⟩:=b.dN e;rw[ea,eb];have t:=fun m=>Vz m a.f a.l a.t b.f b.l b.t
 unfold iW;generalize Zc (fD a.f b.f) (fD a.l b.l) (fD a.t b.t)=r at*;rw[av rfl (k1047:E0.fn _=_) rfl];unfold nW;simp -implicitDefEqProofs[f1047,t]
end
section
variable {α:Type} {e:α->W}
theorem Ov (e:α->W)(a b:Ar α):Ca E1 1047 [.d (a.d e),.d (b.d e)] (.d (.v (.int .i64 (iW a b))),none):=Ca.dW (Ca.bD (QD e 0 a b))
def Ow:aG:=f1089.body.r.r.l.r.bl.lp
def baM:aG:=f1089.body.r.r.l.r.bl.lp.r.l.bl.r.r.r.l.bl.lp
def FX (es:FV)(xi:Nat)(out:FV)(i k:Nat)(t:FV)(L:List ae):St :=
 (st0 [.u,es,.r (.loc 0) 0,.u,out,.d (.v (.int .i64 i)),.r (.loc xi) 0,.d (.v (.int .i64 k)),.u,.u,.u,t,.u,.u,.u] L)
theorem Zt (es:FV)(xi:Nat)(out:FV)(i:Nat)(L:List ae)(aq:List (Ar α))(x:Ar α)(ho:kL e 0 out L aq)(has:aq.length<=1000000)(hx:L[xi]?=some (.box ((x.d e).cells.map .d))) :
  Ex E1 (.loop baM) (FX es xi out i 0 .u L) (.exit 2,FX es xi out i ((aq.findIdx? fun y => !decide (jU y x)).getD aq.length) (.d (.v (.bool false))) L):=by
 have hout:∀ (K:Prop),(out=.d (.n 11)/\aq=[]->K)->(∀ i az,out=.ls (.loc i) az 11 0 aq.length->L[i]?=some (.row az 11 (aq.map (Ar.d e)))->K)->K:=by
  intro K h1 h2;rcases ho with h|⟨i,az,_,h,h'⟩
  ·exact h1 h
  ·exact h2 i az h h'
 have h:=Ex.tK (E:=E1) (b:=baM) aq (fun y => !decide (jU y x)) (fun k=>FX es xi out i k .u L) (.exit 2,FX es xi out i aq.length (.d (.v (.bool false))) L) (fun k=>(.exit 2,FX es xi out i k (.d (.v (.bool false))) L)) (by simp) (by simp)
  (fun j y hy=>by
   have hj:j<aq.length:=(aW hy)
   obtain⟨N,t⟩:=(Ov e y x).get;refine hout _ (fun h=>by rw[h.2]at hy;simp at hy) (fun oi az hoe hrow => ?_);subst hoe;have hjn:(j:Int)<(aq.length:Int):=by omega
   have hj0:(0:Int)<=(j:Int):=by omega
   have aQ:ak .i64 ((j:Int)+1)=(j:Int)+1:=wrap_i64 (by omega);have hk1:((j+1:Nat):Int)=(j:Int)+1:=by omega
   have e1:(aq.map (Ar.d e))[j]?=some (y.d e):=by simp[hy]
   have hlt:=Hf y x;obtain⟨s,l1,l2,c,b,u,p,q,_,ex⟩:=x.dN e;obtain⟨s',l1',l2',c',b',u',p',q',_,ey⟩:=y.dN e;simp only[ex,ey]at t e1 hx;unfold nW at*;have hel:(aq.map (Ar.d e)).length=aq.length:=by simp
   generalize aq.map (Ar.d e)=es',aq.length=n,iW y x=od at*;have i0:=idx e1;have i1:=idx hx;have i2:=idx hrow;have fM:j<es'.length:=(aW e1)
   have lx:xi<L.length:=(aW hx)
   have lo:oi<L.length:=(aW hrow)
   refine Ex.of (n:=N+200) ?_;unfold FX
   by_cases h1:jU y x
   ·have h2:=hlt.2 h1;have hd:(!decide (jU y x))=false:=by simp[h1]
    rw[hd,if_neg (by simp),hk1];clear hlt h1 hd;simp -implicitDefEqProofs[baM,f1089,t,hj0,hjn,fM,aQ,e1,i0,i1,i2,hx,hrow,h2,lx,lo]
   ·have h2:¬ od<0:=fun h=>h1 (hlt.1 h)
    have h3:0<=od:=by omega
    have hd:(!decide (jU y x))=true:=by simp[h1]
    rw[hd,if_pos rfl];clear hlt h1 hd;simp -implicitDefEqProofs[baM,f1089,t,hj0,hjn,fM,e1,i0,i1,i2,hx,hrow,h2,h3,lx,lo])
  (by
   refine hout _ (fun h => ?_) (fun oi az hoe hrow => ?_)
   ·obtain⟨rfl,rfl⟩:=h;refine Ex.of (n:=100) ?_;unfold FX;simp -implicitDefEqProofs[baM,f1089]
   ·subst hoe;refine Ex.of (n:=100) ?_;unfold FX;generalize aq.length=n at*;simp -implicitDefEqProofs[baM,f1089])
 cases hf:aq.findIdx? (fun y => !decide (jU y x)) with
 | none=>rw[hf]at h;exact h
 | some k=>rw[hf]at h;exact h
end
section
variable {α:Type} {e:α->W}
def baP:aG:=f1089.body.r.r.l.r.bl.lp.r.l.bl.r.r.r.r
def uW (es:FV)(out:FV)(i:Nat)(t:FV)(L:List ae):St :=
 (st0 [.u,es,.r (.loc 0) 0,.u,out,.d (.v (.int .i64 i)),.u,.u,.u,.u,t,.u,.u,.u,.u] L)
theorem ac4 (es:FV)(xi:Nat)(out:FV)(i k:Nat)(L:List ae)(aq:List (Ar α))(x:Ar α)(ho:kL e 0 out L aq)(has:aq.length<=1000000)(hk:k<=aq.length)(hx:L[xi]?=some (.box ((x.d e).cells.map .d)))(hno:∀ y,aq[k]?=some y->iW y x≠0)(h0:0<L.length) :
  ∃ out' L',Ex E1 baP (FX es xi out i k (.d (.v (.bool false))) L) (.norm,uW es out' i .u L')/\(∀ j o,j<L.length->L[j]?=some o->L'[j]?=some o)/\kL e 0 out' L' (aq.take k++x::aq.drop k):=by
 have lx:xi<L.length:=(aW hx)
 have gx:∀ X,(L++X)[xi]?=some (.box ((x.d e).cells.map .d)):=fun X=>by rw[List.getElem?_append_left lx];exact hx
 have keep:∀ X (j:Nat) (o:ae),j<L.length->L[j]?=some o->(L++X)[j]?=some o:=fun X j o h1 h2=>by rw[List.getElem?_append_left h1];exact h2
 have sA:∀ c c':ae,(L++[c]).set L.length c'=L++[c']:=fun c c'=>by simp
 obtain⟨s,l1,l2,c,b,u,p,q,_,ex⟩:=x.dN e;rcases ho with ⟨rfl,rfl⟩|⟨oi,az,_,rfl,hrow⟩
 ·obtain rfl:k=0:=by simpa using hk
  refine⟨.ls (.loc L.length) 1 11 0 1,L++[.row 1 11 [x.d e]],?_,keep _,.inr ⟨L.length,1,by omega,rfl,by simp⟩⟩;rw[ex]at hx gx ⊢;unfold nW at*;have i1:=idx hx;have i2:=fun X=>idx (gx X)
  refine Ex.of (n:=200) ?_;unfold FX uW;simp -implicitDefEqProofs[baP,f1089,j_,EZ,hx,sA,most]
 ·have lo:oi<L.length:=(aW hrow)
  have gr:∀ X,(L++X)[oi]?=some (.row az 11 (aq.map (Ar.d e))):=fun X=>by rw[List.getElem?_append_left lo];exact hrow
  have hel:(aq.map (Ar.d e)).length=aq.length:=by simp
  have hk0:(0:Int)<=(k:Int):=by omega
  have hkn:(k:Int)<=(aq.length:Int):=by omega
  have tkd:List.take (aq.length-k) (List.drop k (aq.map (Ar.d e)))=List.drop k (aq.map (Ar.d e)):=List.take_of_length_le (by simp);have tkn:List.take aq.length (aq.map (Ar.d e))=aq.map (Ar.d e):=List.take_of_length_le (by simp);have hv:(ae.row az 11 (aq.map (Ar.d e))).view az 11 k (aq.length-k)=some (List.drop k (aq.map (Ar.d e))):=by
   have h1:k+(aq.length-k)<=(aq.map (Ar.d e)).length:=by rw[hel];omega
   simp only[ae.view,h1,and_self,if_true,tkd]
  have hv0:(ae.row az 11 (aq.map (Ar.d e))).view az 11 0 k=some (List.take k (aq.map (Ar.d e))):=by
   have h1:0+k<=(aq.map (Ar.d e)).length:=by rw[hel];omega
   simp only[ae.view,h1,and_self,if_true,List.drop_zero]
  have hfin:(aq.take k++x::aq.drop k).map (Ar.d e)=List.take k (aq.map (Ar.d e))++(x.d e::List.drop k (aq.map (Ar.d e))):=by simp[List.map_take,List.map_drop]
  have hfl:(aq.take k++x::aq.drop k).length=aq.length+1:=by simp;omega
  have ltk:(List.take k (aq.map (Ar.d e))).length=k:=by simp;omega
  have ldk:(List.drop k (aq.map (Ar.d e))).length=aq.length-k:=by simp
  have nk:aq.length-k<=1000000:=by omega
  -- is an arc at k,at another place?
  have hcond:∃ N,∀ m,EX E1 (N+m) baP.l (FX es xi (.ls (.loc oi) az 11 0 aq.length) i k (.d (.v (.bool false))) L)=some (.norm,{FX es xi (.ls (.loc oi) az 11 0 aq.length) i k .u L with vars:=[.u,es,.r (.loc 0) 0,.u,.ls (.loc oi) az 11 0 aq.length,.d (.v (.int .i64 i)),.r (.loc xi) 0,.d (.v (.int .i64 k)),.u,.u,.u,.u,.d (.v (.bool false)),.u,.u]}):=by
   rcases Nat.lt_or_ge k aq.length with hlt|hge
   ·have hy:aq[k]?=some aq[k]:=List.getElem?_eq_getElem hlt;obtain⟨N,t⟩:=(Ov e aq[k] x).get;have hne:=hno _ hy;have hne2:(iW aq[k] x==0)=false:=by simpa using hne
    generalize aq[k]=y at*;generalize iW y x=od at*;have e1:(aq.map (Ar.d e))[k]?=some (y.d e):=by simp[hy]
    have hkl:(k:Int)<(aq.length:Int):=by omega
    obtain⟨s',l1',l2',c',b',u',p',q',_,ey⟩:=y.dN e;simp only[ex,ey]at t e1 hx;unfold nW at*;generalize aq.map (Ar.d e)=es',aq.length=n at*;have i0:=idx e1;have i1:=idx hx;have i2:=idx hrow;have fM:k<es'.length:=(aW e1)
    refine⟨N+200,fun m => ?_⟩;rw[show N+200+m=(N+m)+200 by omega];replace t:=fun j=>eF (t 0) (show N+0<=N+m+j by omega)
    unfold FX;simp -implicitDefEqProofs[baP,f1089,t,hk0,hkl,fM,i0,i1,i2,hne2,lx,lo]
   ·refine⟨200,fun m => ?_⟩;have hkl:¬ (k:Int)<(aq.length:Int):=by omega
    have nU:(aq.length:Int)<=(k:Int):=by omega
    rw[show 200+m=m+200 by omega];unfold FX;generalize aq.length=n at*;simp -implicitDefEqProofs[baP,f1089,hkl]
  obtain⟨N,hcond⟩:=hcond;rcases Nat.eq_zero_or_pos k with rfl|hpos
  ·have m1:(1+aq.length)*152<=1099511627776:=by omega
   have m2:1+aq.length<=1099511627776:=by omega
   refine⟨.ls (.loc L.length) 1 11 0 (1+aq.length),L++[.row 1 11 (x.d e::aq.map (Ar.d e))],Ex.seq (Ex.of (hcond 0)) ?_,keep _,.inr ⟨L.length,1,by omega,by rw[hfl,Nat.add_comm],by rw[hfin];simp⟩⟩;clear hcond hfin hno;simp only[Nat.sub_zero,List.drop_zero]at hv;rw[ex]at hx gx ⊢;unfold nW at*;generalize aq.map (Ar.d e)=es',aq.length=n at*;have i1:=idx hx;have i2:=fun X=>idx (gx X)
   refine Ex.of (n:=200) ?_;unfold FX uW;simp -implicitDefEqProofs[j_,EZ,hx,gr,hrow,sA,most,hv,hv0,m1,m2,hel]
  ·have hne:(List.take k (aq.map (Ar.d e))).isEmpty=false:=by
    cases h:List.take k (aq.map (Ar.d e)) with
    | nil=>rw[h]at ltk;simp at ltk;omega
    | cons a r=>rfl
   have hne2:List.take k (aq.map (Ar.d e))≠[]:=by intro h;rw[h]at hne;cases hne
   have m1:k*152<=1099511627776:=by omega
   have m2:k<=1099511627776:=by omega
   have m3:(k+1)*152<=1099511627776:=by omega
   have m4:k+1<=1099511627776:=by omega
   have m5:(k+1+(aq.length-k))*152<=1099511627776:=by omega
   have m6:k+1+(aq.length-k)<=1099511627776:=by omega
   refine⟨.ls (.loc L.length) 2 11 0 (k+1+(aq.length-k)),L++[.row 2 11 (List.take k (aq.map (Ar.d e))++(x.d e::List.drop k (aq.map (Ar.d e))))],Ex.seq (Ex.of (hcond 0)) ?_,keep _,.inr ⟨L.length,2,by omega,by rw[hfl];congr 1;omega,by rw[hfin];simp⟩⟩;clear hcond hfin hno;rw[ex]at hx gx ⊢;unfold nW at*;generalize aq.map (Ar.d e)=es' at*;have tk1:∀ v:D,List.take (k+1) (List.take k es'++[v])=List.take k es'++[v]:=fun v=>List.take_of_length_le (by rw[List.length_append,ltk];simp)
   generalize hT:List.take k es'=T at*;generalize hD:List.drop k es'=T2 at*;generalize aq.length=n at*;have i1:=idx hx;have i2:=fun X=>idx (gx X)
   have tT:List.take k T=T:=List.take_of_length_le (by omega);refine Ex.of (n:=200) ?_;unfold FX uW;simp -implicitDefEqProofs[j_,EZ,gx,gr,hrow,sA,most,hv,hv0,hk0,hkn,hne,m1,m2,m3,m4,m5,m6,ltk,ldk,tk1,tT]
theorem Zu (kk:Int)(ps:List Int)(es:FV)(xi:Nat)(out:FV)(i k:Nat)(L:List ae)(aq:List (Ar α))(x y:Ar α)(pl:α->α->α)(ho:kL e 0 out L aq)(has:aq.length<=1000000)(hy:aq[k]?=some y)(hx:L[xi]?=some (.box ((x.d e).cells.map .d)))(heq:iW y x=0)(h0:L[0]?=some (aM kk ps))
  (hp:Ca E1 19 [.d (aP kk ps),.d (e y.x).d,.d (e x.x).d] (.d (e (pl y.x x.x)).d,none)) :
  ∃ L',Ex E1 baP (FX es xi out i k (.d (.v (.bool false))) L) (.exit 1,uW es out i .u L')/\L'[0]?=some (aM kk ps)/\kL e 0 out L' (aq.set k (jJ pl y x)):=by
 have lx:xi<L.length:=(aW hx)
 obtain⟨N2,t2⟩:=hp.any;obtain⟨N3,t3⟩:=(Ov e y x).any;rcases ho with ⟨_,h⟩|⟨oi,az,ho0,rfl,hrow⟩
 ·rw[h]at hy;simp at hy
 ·obtain⟨K,hK⟩:∃ K,K=N2+N3:=⟨_,rfl⟩
  replace t2:=t2 K (by omega);replace t3:=t3 K (by omega);rw[heq]at t3;have lo:oi<L.length:=(aW hrow)
  have hkl:k<aq.length:=(aW hy)
  have nU:(k:Int)<(aq.length:Int):=by omega
  have hk0:(0:Int)<=(k:Int):=by omega
  have e1:(aq.map (Ar.d e))[k]?=some (y.d e):=by simp[hy]
  have hfin:(aq.set k (jJ pl y x)).map (Ar.d e)=(aq.map (Ar.d e)).set k ((jJ pl y x).d e):=by rw[List.map_set]
  refine⟨L.set oi (.row az 11 ((aq.map (Ar.d e)).set k ((jJ pl y x).d e))),?_,by rw[List.getElem?_set_ne ho0];exact h0,.inr ⟨oi,az,ho0,by simp,by rw[hfin];exact List.getElem?_set_self lo⟩⟩;obtain⟨xs,l1,l2,c,b,u,p,ps',ew,ex⟩:=x.dN e;obtain⟨ys,yl1,yl2,yc,yb,yu,yp,yps,Zn,FU⟩:=y.dN e;obtain⟨zs,yP,yQ,zc,zb,zu,zp,EG,ez,Vl⟩:=(jJ pl y x).dN e;have JP:(e (pl y.x x.x)).d=wD zs yP yQ zc zb zu zp EG:=ez;simp only[ex,JP,ew,FU,Zn,Vl]at t2 t3 e1 hx ⊢;have f1:(jJ pl y x).f=y.f:=rfl;have f2:(jJ pl y x).l=y.l:=rfl;have f3:(jJ pl y x).t=y.t:=rfl;rw[f1,f2,f3];clear ew ex ez JP Zn FU Vl hp hfin f1 f2 f3 heq;unfold aM aP wD nW at*;generalize LK .i64 ps=l9,aq.map (Ar.d e)=es2,aq.length=n at*;have i0:=idx e1;have i1:=idx hx;have i2:=idx hrow;have i3:=idx h0;have l0:0<L.length:=by omega
  have fM:k<es2.length:=(aW e1)
  refine Ex.of (n:=K+300) ?_;unfold FX uW;simp -implicitDefEqProofs[baP,f1089,t2,t3,hk0,nU,fM,i0,i1,i2,i3,lo,lx,l0]
end
section
variable {α:Type} {e:α->W} {pl:α->α->α} {z:W} {fJ:α->Bool} {G:Nat->α->Prop} {m:Nat} {kk:Int} {ps:List Int}
theorem kL.keep {s:Nat}{out:FV}{L:List ae}{aq:List (Ar α)}(h:kL e s out L aq)(X:List ae):kL e s out (L++X) aq:=by
 rcases h with h|⟨i,az,h1,h2,h3⟩
 ·exact .inl h
 ·exact .inr ⟨i,az,h1,h2,by rw[List.getElem?_append_left (aW h3)];exact h3⟩
theorem VA (hW:MF kk ps e pl z fJ G m)(l:List (Ar α))(i n:Nat)(out:FV)(L:List ae)(aq:List (Ar α))(x:Ar α)(hl:l.length<=1000000)(hx:l[i]?=some x)(ho:kL e 0 out L aq)(has:aq.length<=1000000)(h0:L[0]?=some (aM kk ps))
  (hn:n<m) (hg:∀ a ∈ aq,G n a.x) (hgx:G 1 x.x) :
  ∃ out' L',Ex E1 Ow (uW (.d (.s 11 (l.map (Ar.d e)))) out i .u L) (.norm,uW (.d (.s 11 (l.map (Ar.d e)))) out' (i+1) .u L')/\L'[0]?=some (aM kk ps)/\kL e 0 out' L' (bY pl x aq):=by
 have hi:i<l.length:=(aW hx)
 have hil:(i:Int)<(l.length:Int):=by omega
 have hi0:(0:Int)<=(i:Int):=by omega
 have aQ:ak .i64 ((i:Int)+1)=(i:Int)+1:=wrap_i64 (by omega);have hk1:((i+1:Nat):Int)=(i:Int)+1:=by omega
 have e1:(l.map (Ar.d e))[i]?=some (x.d e):=by simp[hx]
 have hel:(l.map (Ar.d e)).length=l.length:=by simp
 have l0:0<L.length:=(aW h0)
 obtain⟨N,t⟩:=(hW.tk x.x hgx).get
 -- the arc is looked at,and its weight taken
 have s1:Ex E1 Ow.l (uW (.d (.s 11 (l.map (Ar.d e)))) out i .u L) (.norm,uW (.d (.s 11 (l.map (Ar.d e)))) out i (.d (.v (.bool true))) L):=by
  refine Ex.of (n:=60) ?_;unfold uW;generalize l.map (Ar.d e)=es at*;rw[<-hel]at hil;simp -implicitDefEqProofs[Ow,f1089,hil]
 have s2:Ex E1 Ow.r.l.bl.l (uW (.d (.s 11 (l.map (Ar.d e)))) out i (.d (.v (.bool true))) L) (.norm,{uW (.d (.s 11 (l.map (Ar.d e)))) out i .u L with
   vars:=[.u,.d (.s 11 (l.map (Ar.d e))),.r (.loc 0) 0,.u,out,.d (.v (.int .i64 i)),.r (.loc L.length) 0,.u,.u,.u,.u,.u,.u,.u,.u],loc:=L++[.box ((x.d e).cells.map .d)]}):=by
  have sA:∀ c c':ae,(L++[c]).set L.length c'=L++[c']:=fun c c'=>by simp
  refine Ex.of (n:=60) ?_;obtain⟨s,l1,l2,c,b,u,p,q,_,ex⟩:=x.dN e;rw[ex]at e1 ⊢;unfold uW nW at*;generalize l.map (Ar.d e)=es at*;have i0:=idx e1;have fM:i<es.length:=(aW e1)
  simp -implicitDefEqProofs[Ow,f1089,hi0,fM,e1,i0,sA]
 have s3:Ex E1 Ow.r.l.bl.r.l ({uW (.d (.s 11 (l.map (Ar.d e)))) out i .u L with
   vars:=[.u,.d (.s 11 (l.map (Ar.d e))),.r (.loc 0) 0,.u,out,.d (.v (.int .i64 i)),.r (.loc L.length) 0,.u,.u,.u,.u,.u,.u,.u,.u],loc:=L++[.box ((x.d e).cells.map .d)]}) (.norm,{uW (.d (.s 11 (l.map (Ar.d e)))) out i .u L with
   vars:=[.u,.d (.s 11 (l.map (Ar.d e))),.r (.loc 0) 0,.u,out,.d (.v (.int .i64 i)),.r (.loc L.length) 0,.u,.u,.u,.u,.u,.u,.u,.u],loc:=L++[.box ((x.d e).cells.map .d)]}):=by
  have sA:∀ c c':ae,(L++[c]).set L.length c'=L++[c']:=fun c c'=>by simp
  have g0:∀ X,(L++X)[0]?=some (aM kk ps):=fun X=>by rw[List.getElem?_append_left l0];exact h0
  refine Ex.of (n:=N+60) ?_;obtain⟨s,l1,l2,c,b,u,p,q,ew,ex⟩:=x.dN e;rw[ew]at t;rw[ex];unfold uW nW aM aP wD at*;generalize LK .i64 ps=l9,l.map (Ar.d e)=es at*;have i0:=fun X=>idx (g0 X)
  simp -implicitDefEqProofs[Ow,f1089,t,sA,g0,i0]
 have s4:Ex E1 Ow.r.l.bl.r.r.l ({uW (.d (.s 11 (l.map (Ar.d e)))) out i .u L with
   vars:=[.u,.d (.s 11 (l.map (Ar.d e))),.r (.loc 0) 0,.u,out,.d (.v (.int .i64 i)),.r (.loc L.length) 0,.u,.u,.u,.u,.u,.u,.u,.u],loc:=L++[.box ((x.d e).cells.map .d)]}) (.norm,FX (.d (.s 11 (l.map (Ar.d e)))) L.length out i 0 .u (L++[.box ((x.d e).cells.map .d)])):=by
  refine Ex.of (n:=60) ?_;unfold uW FX;simp -implicitDefEqProofs[Ow,f1089]
 have hbx:(L++[ae.box ((x.d e).cells.map .d)])[L.length]?=some (.box ((x.d e).cells.map .d)):=by simp
 have ho1:=ho.keep [.box ((x.d e).cells.map .d)];have s5:=Zt (.d (.s 11 (l.map (Ar.d e)))) L.length out i _ aq x ho1 has hbx;rw[show(aq.findIdx? fun y => !decide (jU y x)).getD aq.length=zz x aq from rfl]at s5;have s6:∀ out' L',Ex E1 Ow.r.r (uW (.d (.s 11 (l.map (Ar.d e)))) out' i .u L') (.norm,uW (.d (.s 11 (l.map (Ar.d e)))) out' (i+1) .u L'):=by
  intro out' L';refine Ex.of (n:=60) ?_;unfold uW;rw[hk1];simp -implicitDefEqProofs[Ow,f1089,aQ]
 have g1:(L++[ae.box ((x.d e).cells.map .d)])[0]?=some (aM kk ps):=by rw[List.getElem?_append_left l0];exact h0
 by_cases hy:∃ y,aq[zz x aq]?=some y/\xR y x
 ·obtain⟨y,hy,he⟩:=hy;obtain⟨L',h1,h2,h3⟩:=Zu kk ps (.d (.s 11 (l.map (Ar.d e)))) L.length out i _ _ aq x y pl ho1 has hy hbx ((xS y x).2 he) g1 (hW.p2 n y.x x.x hn (hg _ (List.mem_of_getElem? hy)) hgx);rw[Av pl x y aq hy he];exact⟨out,L',s1.seq (Ex.seq (Ex.block (s2.seq (s3.seq (s4.seq (Ex.seq (Ex.block s5) h1))))) (s6 _ _)),h2,h3⟩
 ·have hno:∀ y,aq[zz x aq]?=some y->¬ xR y x:=fun y h1 h2=>hy ⟨y,h1,h2⟩
  obtain⟨out',L',h1,h2,h3⟩:=ac4 (.d (.s 11 (l.map (Ar.d e)))) L.length out i _ _ aq x ho1 has (Zl x aq) hbx (fun y h1 h2=>hno y h1 ((xS y x).1 h2)) (by simp);rw[DC pl x aq hno];exact⟨out',L',s1.seq (Ex.seq (Ex.dK (s2.seq (s3.seq (s4.seq (Ex.seq (Ex.block s5) h1))))) (s6 _ _)),h2 0 _ (by simp) g1,h3⟩
theorem Zv (hW:MF kk ps e pl z fJ G m)(l:List (Ar α))(hl:l.length<=1000000)(hm:l.length<=m)(hg:∀ a ∈ l,G 1 a.x)(L:List ae)(h0:L[0]?=some (aM kk ps)) :
  ∃ out L',Ex E1 (.loop Ow) (uW (.d (.s 11 (l.map (Ar.d e)))) (.d (.n 11)) 0 .u L) (.exit 0,uW (.d (.s 11 (l.map (Ar.d e)))) out l.length (.d (.v (.bool false))) L')/\L'[0]?=some (aM kk ps)/\kL e 0 out L' (dS pl l)/\(∀ a ∈ dS pl l,G (l.length+1) a.x)/\(dS pl l).length<=l.length:=by
 have hel:(l.map (Ar.d e)).length=l.length:=by simp
 have hG:∀ {x:α} {n k:Nat},G n x->n<=k->G k x:=by
  intro x n k h hk
  induction k with
  | zero => obtain rfl : n = 0 := by omega
            exact h
  | succ k ih =>
   rcases Nat.eq_or_lt_of_le hk with rfl|h2
   ·exact h
   ·exact hW.mono _ _ (ih (by omega))
 obtain⟨r,h1,out,L',h2,h3,h4,h5,h6⟩:=Ex.fold (E:=E1) (b:=Ow) l (fun p x=>bY pl x p) []
  (fun j acc st=>∃ out L,st=uW (.d (.s 11 (l.map (Ar.d e)))) out j .u L/\L[0]?=some (aM kk ps)/\kL e 0 out L acc/\(∀ a ∈ acc,G j a.x)/\acc.length<=j)
  (fun acc r=>∃ out L,r=(.exit 0,uW (.d (.s 11 (l.map (Ar.d e)))) out l.length (.d (.v (.bool false))) L)/\L[0]?=some (aM kk ps)/\kL e 0 out L acc/\(∀ a ∈ acc,G l.length a.x)/\acc.length<=l.length)
  (fun j x st hx ⟨out,L,hst,g0,g1,g2,g3⟩=>by
   subst hst;have hj:j<l.length:=(aW hx)
   have hgx:=hg x (List.mem_of_getElem? hx);obtain⟨out',L',k1,k2,k3⟩:=VA hW l j j out L _ x hl hx g1 (by omega) g0 (by omega) g2 hgx;refine⟨_,k1,out',L',rfl,k2,k3,?_,?_⟩
   ·exact wo pl x (fun a=>G j a.x) (fun a=>G (j+1) a.x) (hG hgx (by omega)) (fun y h=>hW.mono _ _ h) (fun y h=>hW.pg _ _ _ (by omega) h hgx) _ g2
   ·have:=wh pl x ((l.take j).foldl (fun p x=>bY pl x p) []);omega)
  (fun st ⟨out,L,hst,g0,g1,g2,g3⟩=>by
   subst hst;refine⟨_,Ex.of (n:=60) (r:=(.exit 0,uW (.d (.s 11 (l.map (Ar.d e)))) out l.length (.d (.v (.bool false))) L)) ?_,by simp,out,L,rfl,g0,g1,g2,g3⟩;unfold uW;generalize l.map (Ar.d e)=es at*;rw[<-hel];simp -implicitDefEqProofs[Ow,f1089])
  (st:=uW (.d (.s 11 (l.map (Ar.d e)))) (.d (.n 11)) 0 .u L) ⟨_,L,rfl,h0,.inl ⟨rfl,rfl⟩,by simp,by simp⟩
 subst h2;exact⟨out,L',h1,h3,h4,fun a ha=>hG (h5 a ha) (by omega),h6⟩
end
section
variable {α:Type} {e:α->W} {pl:α->α->α} {z:W} {fJ:α->Bool} {G:Nat->α->Prop} {m:Nat} {kk:Int} {ps:List Int}
def Zw:aG:=f1089.body.r.r.r.r.l.r.bl.lp
def Eu (out kept:FV)(i:Nat)(t:FV)(L:List ae):St :=
 (st0 [.u,.u,.r (.loc 0) 0,.u,out,.u,.u,.u,kept,.d (.v (.int .i64 i)),.u,.u,.u,t,.u] L)
theorem VB (oi az n j:Nat)(kept:FV)(L:List ae)(aq ks:List (Ar α))(y:Ar α)(b:Bool)(has:aq.length=n)(hn:n<=1000000)(hks:ks.length<=1000000)(hrow:L[oi]?=some (.row az 11 (aq.map (Ar.d e))))(hy:aq[j]?=some y)(ho:kL e oi kept L ks)(h0:L[0]?=some (aM kk ps))
  (hz:Ca E1 1126 [.d (aP kk ps),.d (e y.x).d] (.d (.v (.bool b)),none)) :
  ∃ kept' L',Ex E1 Zw (Eu (.ls (.loc oi) az 11 0 n) kept j .u L) (.norm,Eu (.ls (.loc oi) az 11 0 n) kept' (j+1) .u L')/\L'[0]?=some (aM kk ps)/\L'[oi]?=some (.row az 11 (aq.map (Ar.d e)))/\kL e oi kept' L' (ks++if b then [] else [y]):=by
 obtain⟨N,t⟩:=hz.get;have hj:j<aq.length:=(aW hy)
 have hjn:(j:Int)<(n:Int):=by omega
 have hj0:(0:Int)<=(j:Int):=by omega
 have aQ:ak .i64 ((j:Int)+1)=(j:Int)+1:=wrap_i64 (by omega);have hk1:((j+1:Nat):Int)=(j:Int)+1:=by omega
 have e1:(aq.map (Ar.d e))[j]?=some (y.d e):=by simp[hy]
 have l0:0<L.length:=(aW h0)
 have lo:oi<L.length:=(aW hrow)
 have ho0:oi≠0:=fun h=>by subst h;rw[h0]at hrow;cases hrow
 have hel:(aq.map (Ar.d e)).length=n:=by simpa using has
 cases b with
 | true =>
  refine⟨kept,L,?_,h0,hrow,by simpa using ho⟩;obtain⟨s,l1,l2,c,i,u,p,q,ew,ex⟩:=y.dN e;rw[ew]at t;rw[ex]at e1;unfold aM aP wD nW at*;generalize LK .i64 ps=l9,aq.map (Ar.d e)=es at*;have i0:=idx e1;have i1:=idx hrow;have i2:=idx h0;have fM:j<es.length:=(aW e1)
  refine Ex.of (n:=N+200) ?_;unfold Eu;rw[hk1];simp -implicitDefEqProofs[Zw,f1089,t,hj0,hjn,fM,aQ,e1,i0,i1,i2,hrow,h0,lo,l0]
 | false =>
  rcases ho with ⟨rfl,rfl⟩|⟨ki,kv,hki,rfl,hk⟩
  ·refine⟨.ls (.loc L.length) 0 11 0 1,L++[.row 0 11 [y.d e]],?_,by rw[List.getElem?_append_left l0];exact h0,by rw[List.getElem?_append_left lo];exact hrow,.inr ⟨L.length,0,by omega,rfl,by simp⟩⟩;obtain⟨s,l1,l2,c,i,u,p,q,ew,ex⟩:=y.dN e;rw[ew]at t;simp only[ex]at e1 ⊢;unfold aM aP wD nW at*;generalize LK .i64 ps=l9,aq.map (Ar.d e)=es at*;have i0:=idx e1;have i1:=idx hrow;have i2:=idx h0;have fM:j<es.length:=(aW e1)
   refine Ex.of (n:=N+200) ?_;unfold Eu;rw[hk1];simp -implicitDefEqProofs[Zw,f1089,t,hj0,hjn,fM,aQ,e1,i0,i1,i2,hrow,h0,lo,l0,most]
  ·have lk:ki<L.length:=(aW hk)
   have hk0:ki≠0:=fun h=>by subst h;rw[h0]at hk;cases hk
   have m1:(ks.length+1)*152<=1099511627776:=by omega
   have m2:ks.length+1<=1099511627776:=by omega
   have hkl:(ks.map (Ar.d e)).length=ks.length:=by simp
   have tkk:List.take ks.length (ks.map (Ar.d e))=ks.map (Ar.d e):=List.take_of_length_le (by simp);refine⟨.ls (.loc ki) (kv+1) 11 0 (ks.length+1),L.set ki (.row (kv+1) 11 (ks.map (Ar.d e)++[y.d e])),?_,by rw[List.getElem?_set_ne hk0];exact h0,by rw[List.getElem?_set_ne hki];exact hrow,
    .inr ⟨ki,kv+1,hki,by simp,by rw[List.getElem?_set_self lk];simp⟩⟩
   obtain⟨s,l1,l2,c,i,u,p,q,ew,ex⟩:=y.dN e;rw[ew]at t;simp only[ex]at e1 ⊢;unfold aM aP wD nW at*;generalize LK .i64 ps=l9,aq.map (Ar.d e)=es,ks.map (Ar.d e)=es2,ks.length=k at*;have i0:=idx e1;have i1:=idx hrow;have i2:=idx h0;have i3:=idx hk;have fM:j<es.length:=(aW e1)
   refine Ex.of (n:=N+200) ?_;unfold Eu;rw[hk1];simp -implicitDefEqProofs[Zw,f1089,t,hj0,hjn,fM,aQ,e1,i0,i1,i2,i3,hrow,h0,hk,lo,l0,lk,most,m1,m2,hkl,tkk]
theorem Zx (oi az:Nat)(L:List ae)(aq:List (Ar α))(hn:aq.length<=1000000)(hrow:L[oi]?=some (.row az 11 (aq.map (Ar.d e))))(h0:L[0]?=some (aM kk ps))
  (hz:∀ a ∈ aq,Ca E1 1126 [.d (aP kk ps),.d (e a.x).d] (.d (.v (.bool (fJ a.x))),none)) :
  ∃ kept L',Ex E1 (.loop Zw) (Eu (.ls (.loc oi) az 11 0 aq.length) (.d (.n 11)) 0 .u L) (.exit 4,Eu (.ls (.loc oi) az 11 0 aq.length) kept aq.length (.d (.v (.bool false))) L')/\kL e oi kept L' (aq.filter fun a => !fJ a.x):=by
 have hff:∀ (l p:List (Ar α)),l.foldl (fun p y=>p++if fJ y.x then [] else [y]) p=p++l.filter fun a => !fJ a.x:=by
  intro l
  induction l with
  | nil=>intro p;simp
  | cons a l ih=>intro p;rw[List.foldl_cons,ih];cases h:fJ a.x<;>simp[h]
 obtain⟨r,h1,kept,L',h2,h3⟩:=Ex.fold (E:=E1) (b:=Zw) aq (fun p y=>p++if fJ y.x then [] else [y]) []
  (fun j acc st=>∃ kept L,st=Eu (.ls (.loc oi) az 11 0 aq.length) kept j .u L/\L[0]?=some (aM kk ps)/\L[oi]?=some (.row az 11 (aq.map (Ar.d e)))/\kL e oi kept L acc/\acc.length<=j)
  (fun acc r=>∃ kept L,r=(.exit 4,Eu (.ls (.loc oi) az 11 0 aq.length) kept aq.length (.d (.v (.bool false))) L)/\kL e oi kept L acc)
  (fun j y st hy ⟨kept,L,hst,g0,g1,g2,g3⟩=>by
   subst hst;have hj:j<aq.length:=(aW hy)
   obtain⟨kept',L',k1,k2,k3,k4⟩:=VB oi az aq.length j kept L aq _ y (fJ y.x) rfl hn (by omega) g1 hy g2 g0 (hz y (List.mem_of_getElem? hy));refine⟨_,k1,kept',L',rfl,k2,k3,k4,?_⟩;have h9:(if fJ y.x then [] else [y]:List (Ar α)).length<=1:=by split<;>simp
   rw[List.length_append];omega)
  (fun st ⟨kept,L,hst,g0,g1,g2,g3⟩=>by
   subst hst;refine⟨_,Ex.of (n:=60) (r:=(.exit 4,Eu (.ls (.loc oi) az 11 0 aq.length) kept aq.length (.d (.v (.bool false))) L)) ?_,by simp,kept,L,rfl,g2⟩;unfold Eu;generalize aq.length=n at*;simp -implicitDefEqProofs[Zw,f1089])
  (st:=Eu (.ls (.loc oi) az 11 0 aq.length) (.d (.n 11)) 0 .u L) ⟨_,L,rfl,h0,hrow,.inl ⟨rfl,rfl⟩,by simp⟩
 subst h2;rw[hff,List.nil_append]at h3;exact⟨kept,L',h1,h3⟩
theorem VC (hW:MF kk ps e pl z fJ G m)(l:List (Ar α))(hl:l.length<=100000)(hm:l.length<m)(hg:∀ a ∈ l,G 1 a.x) :
  Ca E1 1089 [.d (aP kk ps),.d (.s 11 (l.map (Ar.d e)))] (.d (.s 11 (((dS pl l).filter fun a => !fJ a.x).map (Ar.d e))),none):=by
 have sA:Ex E1 f1089.body.l (st0 [.d (aP kk ps),.d (.s 11 (l.map (Ar.d e))),.u,.u,.u,.u,.u,.u,.u,.u,.u,.u,.u,.u,.u] [])
   (.norm,(st0 [.u,.d (.s 11 (l.map (Ar.d e))),.r (.loc 0) 0,.u,.u,.u,.u,.u,.u,.u,.u,.u,.u,.u,.u] [aM kk ps])):=by
  refine Ex.of (n:=60) ?_;unfold aP aM;simp -implicitDefEqProofs[f1089]
 have sB:Ex E1 f1089.body.r.l (st0 [.u,.d (.s 11 (l.map (Ar.d e))),.r (.loc 0) 0,.u,.u,.u,.u,.u,.u,.u,.u,.u,.u,.u,.u] [aM kk ps])
   (.norm,(st0 [.u,.d (.s 11 (l.map (Ar.d e))),.r (.loc 0) 0,.u,.d (.n 11),.u,.u,.u,.u,.u,.u,.u,.u,.u,.u] [aM kk ps])):=by
  refine Ex.of (n:=60) ?_;simp -implicitDefEqProofs[f1089]
 have sC:Ex E1 f1089.body.r.r.l.l (st0 [.u,.d (.s 11 (l.map (Ar.d e))),.r (.loc 0) 0,.u,.d (.n 11),.u,.u,.u,.u,.u,.u,.u,.u,.u,.u] [aM kk ps])
   (.norm,uW (.d (.s 11 (l.map (Ar.d e)))) (.d (.n 11)) 0 .u [aM kk ps]):=by
  refine Ex.of (n:=60) ?_;unfold uW;simp -implicitDefEqProofs[f1089]
 obtain⟨out,L,h1,h2,h3,h4,h5⟩:=Zv hW l (by omega) (by omega) hg [aM kk ps] rfl;have sD:Ex E1 f1089.body.r.r.r.l (uW (.d (.s 11 (l.map (Ar.d e)))) out l.length (.d (.v (.bool false))) L) (.norm,{Eu out (.d (.n 11)) 0 .u L with vars:=[.u,.u,.r (.loc 0) 0,.u,out,.u,.u,.u,.d (.n 11),.u,.u,.u,.u,.u,.u]}):=by
  refine Ex.of (n:=60) ?_;unfold uW Eu;simp -implicitDefEqProofs[f1089]
 have sE:Ex E1 f1089.body.r.r.r.r.l.l {Eu out (.d (.n 11)) 0 .u L with vars:=[.u,.u,.r (.loc 0) 0,.u,out,.u,.u,.u,.d (.n 11),.u,.u,.u,.u,.u,.u]} (.norm,Eu out (.d (.n 11)) 0 .u L):=by
  refine Ex.of (n:=60) ?_;unfold Eu;simp -implicitDefEqProofs[f1089]
 have key:∃ kept n L' s,Ex E1 (.loop Zw) (Eu out (.d (.n 11)) 0 .u L) (.exit 4,Eu out kept n (.d (.v (.bool false))) L')/\kL e s kept L' ((dS pl l).filter fun a => !fJ a.x):=by
  rcases h3 with ⟨rfl,hnil⟩|⟨oi,az,hoi,rfl,hrow⟩
  ·rw[hnil];refine⟨.d (.n 11),0,L,0,Ex.leave (Ex.of (n:=60) ?_) (by simp),.inl ⟨rfl,rfl⟩⟩;unfold Eu;simp -implicitDefEqProofs[Zw,f1089]
  ·obtain⟨kept,L',k1,k2⟩:=Zx (fJ:=fJ) oi az L (dS pl l) (by omega) hrow h2 (fun a ha=>hW.z2 _ _ (by omega) (h4 a ha));exact⟨kept,_,L',oi,k1,k2⟩
 obtain⟨kept,n,L',s,k1,k2⟩:=key;have sF:Ex E1 f1089.body.r.r.r.r.r (Eu out kept n (.d (.v (.bool false))) L') (.ret,(st0 [.u,.u,.u,kept,.u,.u,.u,.u,.u,.u,.u,.u,.u,.u,.u] (L'))):=by
  refine Ex.of (n:=60) ?_;unfold Eu;simp -implicitDefEqProofs[f1089]
 refine Ca.body (o:=.ret) rfl (k1089:E1.fn _=_) rfl (sA.seq (sB.seq (Ex.seq (sC.seq (Ex.block h1)) (sD.seq (Ex.seq (sE.seq (Ex.block k1)) sF))))) (by simp) ?_;rcases k2 with ⟨rfl,hnil⟩|⟨ki,kv,_,rfl,hk⟩
 ·rw[hnil];simp[show f1089.res=[.var 3] from rfl,show f1089.ref=false from rfl]
 ·generalize (dS pl l).filter (fun a => !fJ a.x)=ks at*;have h9:ae.view kv 11 0 ks.length (.row kv 11 (ks.map (Ar.d e)))=some (ks.map (Ar.d e)):=by
   have:List.take ks.length (ks.map (Ar.d e))=ks.map (Ar.d e):=List.take_of_length_le (by simp);simp[ae.view,this]
  simp[show f1089.res=[.var 3] from rfl,show f1089.ref=false from rfl,hk,h9]
end
set_option maxRecDepth 10000
section
variable {α:Type} {e:α->W} {pl:α->α->α} {z:W} {fJ:α->Bool} {G:Nat->α->Prop} {m:Nat} {kk:Int} {ps:List Int}
theorem J3 (kk:Int)(ps:List Int)(hl:ps.length<=1000000):Ca E1 1043 [.d (aP kk ps)] (.d (aP kk ps),none):=by
 have hll:(LK .i64 ps).length<=1000000:=by simpa[LK] using hl
 refine Ca.bD (n:=100) ?_;rw[av rfl (k1043:E1.fn _=_) rfl];unfold aP;generalize LK .i64 ps=l9 at*;cases l9 with
 | nil=>simp -implicitDefEqProofs[f1043,most]
 | cons d ds =>
  have m1:(d::ds).length*8<=1099511627776:=by omega
  have m2:(d::ds).length<=1099511627776:=by omega
  simp only[List.length_cons]at m1 m2;simp -implicitDefEqProofs[f1043,most,m1,m2,ae.view]
def btL:aG:=f1088.body.r.r.l.r.bl.lp
def QE (es:List D)(out:FV)(j:Nat)(t:FV)(L:List ae):St :=
 (st0 [.u,.d (.s 8 es),.r (.loc 0) 0,.u,out,.d (.v (.int .i64 j)),t] L)
theorem VD (ws:List W)(j:Nat)(out:FV)(L:List ae)(aq:List D)(x:W)(hn:ws.length<=1000000)(h0:L[0]?=some (aM kk ps))(hx:ws[j]?=some x)(ho:JZ 0 out L aq)(has:aq.length<=1000000)
  (hp:Ca E1 53 [.d (aP kk ps),.d x.d] (.d x.d,none)) :
  ∃ out' L',Ex E1 btL (QE (ws.map W.d) out j .u L) (.norm,QE (ws.map W.d) out' (j+1) .u L')/\L'[0]?=some (aM kk ps)/\JZ 0 out' L' (aq++[x.d]):=by
 obtain⟨K,t⟩:=hp.get;have hj:j<ws.length:=(aW hx)
 have hj0:(0:Int)<=(j:Int):=by omega
 have aQ:ak .i64 ((j:Int)+1)=(j:Int)+1:=wrap_i64 (by omega);have hk1:((j+1:Nat):Int)=(j:Int)+1:=by omega
 have e1:(ws.map W.d)[j]?=some x.d:=by simp[hx]
 have l0:0<L.length:=(aW h0)
 rcases ho with ⟨rfl,rfl⟩|⟨i,az,hi0,rfl,hrow⟩
 ·refine⟨.ls (.loc L.length) 0 8 0 1,L++[.row 0 8 [x.d]],?_,by rw[List.getElem?_append_left l0];exact h0,.inr ⟨L.length,0,by omega,rfl,by simp⟩⟩;obtain⟨s,l1,l2,c,b,u,p,q,ex⟩:=x.aF;simp only[ex]at t e1 ⊢;unfold aM aP wD at*;generalize LK .i64 ps=l9,ws.map W.d=es at*;have i0:=idx e1;have j0:=idx h0;have fM:j<es.length:=(aW e1)
  have hjl:(j:Int)<(es.length:Int):=by omega
  refine Ex.of (n:=K+300) ?_;unfold QE;rw[hk1];simp -implicitDefEqProofs[btL,f1088,t,hj0,fM,hjl,aQ,e1,i0,j0,h0,l0,most]
 ·have li:i<L.length:=(aW hrow)
  have m1:(aq.length+1)*128<=1099511627776:=by omega
  have m2:aq.length+1<=1099511627776:=by omega
  refine⟨.ls (.loc i) (az+1) 8 0 (aq.length+1),L.set i (.row (az+1) 8 (aq++[x.d])),?_,?_,.inr ⟨i,az+1,hi0,by simp,List.getElem?_set_self li⟩⟩
  ·obtain⟨s,l1,l2,c,b,u,p,q,ex⟩:=x.aF;simp only[ex]at t e1 ⊢;unfold aM aP wD at*;generalize LK .i64 ps=l9,ws.map W.d=es at*;have i0:=idx e1;have j0:=idx h0;have ji:=idx hrow;have fM:j<es.length:=(aW e1)
   have hjl:(j:Int)<(es.length:Int):=by omega
   refine Ex.of (n:=K+300) ?_;unfold QE;rw[hk1];simp -implicitDefEqProofs[btL,f1088,t,hj0,fM,hjl,aQ,e1,i0,j0,ji,h0,l0,hrow,li,most,m1,m2]
  ·rw[List.getElem?_set_ne hi0];exact h0
theorem J4 (ws:List W)(hn:ws.length<=1000000)(hp:∀ x ∈ ws,Ca E1 53 [.d (aP kk ps),.d x.d] (.d x.d,none)) :
  Ca E1 1088 [.d (aP kk ps),.d (.s 8 (ws.map W.d))] (.d (.s 8 (ws.map W.d)),none):=by
 have hff:∀ (l:List W) (p:List D),l.foldl (fun p x=>p++[x.d]) p=p++l.map W.d:=by
  intro l
  induction l with
  | nil=>intro p;simp
  | cons a l ih=>intro p;rw[List.foldl_cons,ih];simp
 have hel:(ws.map W.d).length=ws.length:=by simp
 obtain⟨r,h1,out,L,h2,h3⟩:=Ex.fold (E:=E1) (b:=btL) ws (fun p x=>p++[x.d]) []
  (fun j acc st=>∃ out L,st=QE (ws.map W.d) out j .u L/\L[0]?=some (aM kk ps)/\JZ 0 out L acc/\acc.length=j)
  (fun acc r=>∃ out L,r=(.exit 0,QE (ws.map W.d) out ws.length (.d (.v (.bool false))) L)/\JZ 0 out L acc)
  (fun j x st hx ⟨out,L,hst,g0,g1,g2⟩=>by
   subst hst;have hj:j<ws.length:=(aW hx)
   obtain⟨out',L',k1,k2,k3⟩:=VD (kk:=kk) (ps:=ps) ws j out L _ x hn g0 hx g1 (by omega) (hp x (List.mem_of_getElem? hx));exact⟨_,k1,out',L',rfl,k2,k3,by rw[List.length_append,g2];rfl⟩)
  (fun st ⟨out,L,hst,g0,g1,g2⟩=>by
   subst hst;refine⟨_,Ex.of (n:=60) (r:=(.exit 0,QE (ws.map W.d) out ws.length (.d (.v (.bool false))) L)) ?_,by simp,out,L,rfl,g1⟩;unfold QE;generalize ws.map W.d=es at*;rw[<-hel];simp -implicitDefEqProofs[btL,f1088])
  (st:=QE (ws.map W.d) (.d (.n 8)) 0 .u [aM kk ps]) ⟨_,_,rfl,rfl,.inl ⟨rfl,rfl⟩,rfl⟩
 subst h2;rw[hff,List.nil_append]at h3;have sA:Ex E1 f1088.body.l (st0 [.d (aP kk ps),.d (.s 8 (ws.map W.d)),.u,.u,.u,.u,.u] [])
   (.norm,(st0 [.u,.d (.s 8 (ws.map W.d)),.r (.loc 0) 0,.u,.u,.u,.u] [aM kk ps])):=by
  refine Ex.of (n:=60) ?_;unfold aP aM;simp -implicitDefEqProofs[f1088]
 have sB:Ex E1 f1088.body.r.l (st0 [.u,.d (.s 8 (ws.map W.d)),.r (.loc 0) 0,.u,.u,.u,.u] [aM kk ps])
   (.norm,(st0 [.u,.d (.s 8 (ws.map W.d)),.r (.loc 0) 0,.u,.d (.n 8),.u,.u] [aM kk ps])):=by
  refine Ex.of (n:=60) ?_;simp -implicitDefEqProofs[f1088]
 have sC:Ex E1 f1088.body.r.r.l.l (st0 [.u,.d (.s 8 (ws.map W.d)),.r (.loc 0) 0,.u,.d (.n 8),.u,.u] [aM kk ps])
   (.norm,QE (ws.map W.d) (.d (.n 8)) 0 .u [aM kk ps]):=by
  refine Ex.of (n:=60) ?_;unfold QE;simp -implicitDefEqProofs[f1088]
 have sD:Ex E1 f1088.body.r.r.r (QE (ws.map W.d) out ws.length (.d (.v (.bool false))) L) (.ret,(st0 [.u,.u,.u,out,.u,.u,.u] L)):=by
  refine Ex.of (n:=60) ?_;unfold QE;simp -implicitDefEqProofs[f1088]
 refine Ca.body (o:=.ret) rfl (k1088:E1.fn _=_) rfl (sA.seq (sB.seq (Ex.seq (sC.seq (Ex.block h1)) sD))) (by simp) ?_;generalize ws.map W.d=es at*;rcases h3 with ⟨rfl,rfl⟩|⟨i,az,_,rfl,hrow⟩
 ·simp[show f1088.res=[.var 3] from rfl,show f1088.ref=false from rfl]
 ·have h9:ae.view az 8 0 es.length (.row az 8 es)=some es:=by simp[ae.view]
  simp[show f1088.res=[.var 3] from rfl,show f1088.ref=false from rfl,hrow,h9]
theorem Ht (hW:MF kk ps e pl z fJ G m)(sy st:Int)(aN fin:List α)(ah:List (Ar α))(hl:ps.length<=1000000)(hn:ah.length<=100000)(hm:ah.length<m)(h1:aN.length<=1000000)(h2:fin.length<=1000000)
  (g1:∀ x ∈ aN,G 1 x) (g2:∀ x ∈ fin,G 1 x) (g3:∀ a ∈ ah,G 1 a.x) :
  Ca E1 1044 [.d (jf kk ps sy st (aN.map e) (fin.map e) e ah)] (.d (jf kk ps sy st (aN.map e) (fin.map e) e (lK pl fJ ah)),none):=by
 obtain⟨N2,t2⟩:=(J3 kk ps hl).any;obtain⟨N3,t3⟩:=(J4 (kk:=kk) (ps:=ps) (aN.map e) (by simpa using h1) (fun x hx=>by
  obtain⟨a,ha,rfl⟩:=List.mem_map.1 hx;exact hW.tk a (g1 a ha))).any
 obtain⟨N4,t4⟩:=(J4 (kk:=kk) (ps:=ps) (fin.map e) (by simpa using h2) (fun x hx=>by
  obtain⟨a,ha,rfl⟩:=List.mem_map.1 hx;exact hW.tk a (g2 a ha))).any
 obtain⟨N5,t5⟩:=(VC hW ah hn hm g3).any;obtain⟨K,hK⟩:∃ K,K=N2+N3+N4+N5:=⟨_,rfl⟩
 replace t2:=t2 K (by omega);replace t3:=t3 K (by omega);replace t4:=t4 K (by omega);replace t5:=t5 K (by omega);rw[show(dS pl ah).filter (fun a => !fJ a.x)=lK pl fJ ah from rfl]at t5;refine Ca.bD (n:=K+200) ?_;rw[av rfl (k1044:E1.fn _=_) rfl];unfold jf fA aP at*;generalize (lK pl fJ ah).map (Ar.d e)=es4,ah.map (Ar.d e)=Xp,(aN.map e).map W.d=es1,(fin.map e).map W.d=es2,LK .i64 ps=l9 at*;simp -implicitDefEqProofs[f1044,t2,t3,t4,t5]
end
end Fi.S
namespace Fi.S
open Go Fi
set_option maxHeartbeats 8000000
set_option maxRecDepth 10000
section
variable {α:Type} {e:α->W} {kk:Int} {ps:List Int}
def zF:D:=fA 0 [] 0 0 [] [] []
end
end Fi.S
namespace Fi.S
open Go Fi
set_option maxHeartbeats 8000000
set_option maxRecDepth 10000
section
variable {α:Type} {e:α->W} {kk:Int} {ps:List Int}
theorem runIx (n:Nat)(x lo hi:Int):CL E1 (n+100) 1041 [.d (.v (.int .i64 x)),.d (.v (.int .i64 lo)),.d (.v (.int .i64 hi))] []=some (.d (.v (.bool (kZ x lo hi))),none):=by
 rw[av rfl (k1041:E1.fn _=_) rfl];unfold kZ
 by_cases h1:lo<=x
 ·simp -implicitDefEqProofs[f1041,h1]
 ·have h2:x<lo:=by omega
  simp -implicitDefEqProofs[f1041,h1,h2]
theorem mK (n:Nat)(x:Int):CL E1 (n+100) 1040 [.d (.v (.int .i64 x))] []=some (.d (.v (.bool (kZ x 1 32))),none):=by
 rw[av rfl (k1040:E1.fn _=_) rfl];unfold kZ
 by_cases h1:1<=x
 ·simp -implicitDefEqProofs[f1040,h1]
 ·have h2:x<1:=by omega
  simp -implicitDefEqProofs[f1040,h1,h2]
end
section
variable {α:Type} {e:α->W}
def dU (ws ws':List W):Bool:=decide ((ws.length:Int)=ws'.length)&&(ws.zip ws').all fun p=>p.1.eq p.2
def FY (e:α->W)(aq aq':List (Ar α)):Bool:=decide ((aq.length:Int)=aq'.length)&&(aq.zip aq').all fun p=>decide (iW p.1 p.2=0)&&(e p.1.x).eq (e p.2.x)
def slL:aG:=f1046.body.r.r.l.r.bl.lp
def slS (es es':List D)(j:Nat)(t:FV):St:=(st0 [.d (.s 8 es),.d (.s 8 es'),.u,.d (.v (.int .i64 j)),.u,t,.u] [])
theorem Az (ws ws':List W)(hn:ws.length<=1000000)(o1:∀ w ∈ ws,w.OK)(o2:∀ w ∈ ws',w.OK) :
  Ca E1 1046 [.d (.s 8 (ws.map W.d)),.d (.s 8 (ws'.map W.d))] (.d (.v (.bool (dU ws ws'))),none):=by
 have n1:(ws.map W.d).length=ws.length:=by simp
 have n2:(ws'.map W.d).length=ws'.length:=by simp
 unfold dU
 by_cases hlen:ws.length=ws'.length
 ·have hd:decide ((ws.length:Int)=ws'.length)=true:=by simp[hlen]
  rw[hd,Bool.true_and];have hzl:(ws.zip ws').length=ws.length:=by rw[List.length_zip];omega
  have hloop:=Ex.mI (E:=E1) (b:=slL) (ws.zip ws') (fun p=>p.1.eq p.2) (fun j=>slS (ws.map W.d) (ws'.map W.d) j .u) (.exit 0,slS (ws.map W.d) (ws'.map W.d) ws.length (.d (.v (.bool false))))
   (.ret,(st0 [.u,.u,.d (.v (.bool false)),.u,.u,.u,.u] [])) (by simp) (by simp)
   (fun j p hp=>by
    obtain⟨x,y⟩:=p;have hj:j<(ws.zip ws').length:=(aW hp)
    obtain⟨hx,hy⟩:=List.getElem?_zip_eq_some.1 hp;obtain⟨N,t⟩:=(Ca.dW (oZ x (o1 x (List.mem_of_getElem? hx)) y (o2 y (List.mem_of_getElem? hy)))).get;have hj0:(0:Int)<=(j:Int):=by omega
    have aQ:ak .i64 ((j:Int)+1)=(j:Int)+1:=wrap_i64 (by omega);have hk1:((j+1:Nat):Int)=(j:Int)+1:=by omega
    have e1:(ws.map W.d)[j]?=some x.d:=by simp[hx]
    have e2:(ws'.map W.d)[j]?=some y.d:=by simp[hy]
    obtain⟨s,l1,l2,c,b,u,q,ps,ex⟩:=x.aF;obtain⟨s',l1',l2',c',b',u',q',ps',ey⟩:=y.aF;simp only[ex,ey]at t e1 e2;unfold wD at*;generalize ws.map W.d=es,ws'.map W.d=es' at*;have i0:=idx e1;have i1:=idx e2;have fM:j<es.length:=(aW e1)
    have QF:j<es'.length:=(aW e2)
    have hjl:(j:Int)<(es.length:Int):=by omega
    generalize x.eq y=r at*;refine Ex.of (n:=N+100) ?_;unfold slS;cases r
    ·rw[if_neg (by simp)];simp -implicitDefEqProofs[slL,f1046,t,hj0,fM,QF,hjl,e1,e2,i0,i1]
    ·rw[if_pos rfl,hk1];simp -implicitDefEqProofs[slL,f1046,t,hj0,fM,QF,hjl,e1,e2,i0,i1,aQ])
   (by
    rw[hzl];refine Ex.of (n:=60) ?_;unfold slS;rw[<-n1];generalize ws.map W.d=es at*;simp -implicitDefEqProofs[slL,f1046])
  have hne:((ws.length:Int) != (ws'.length:Int))=false:=by simp[hlen]
  have sA:Ex E1 f1046.body.l (st0 [.d (.s 8 (ws.map W.d)),.d (.s 8 (ws'.map W.d)),.u,.u,.u,.u,.u] []) (.norm,(st0 [.d (.s 8 (ws.map W.d)),.d (.s 8 (ws'.map W.d)),.u,.u,.u,.u,.u] [])):=by
   refine Ex.of (n:=60) ?_;simp -implicitDefEqProofs[f1046]
  have sB:Ex E1 f1046.body.r.l (st0 [.d (.s 8 (ws.map W.d)),.d (.s 8 (ws'.map W.d)),.u,.u,.u,.u,.u] []) (.norm,(st0 [.d (.s 8 (ws.map W.d)),.d (.s 8 (ws'.map W.d)),.u,.u,.d (.v (.bool false)),.u,.u] [])):=by
   refine Ex.of (n:=60) ?_;rw[<-n1,<-n2]at hne;clear hloop;generalize ws.map W.d=es,ws'.map W.d=es' at*;simp -implicitDefEqProofs[f1046,hne]
  have sC:Ex E1 f1046.body.r.r.l.l (st0 [.d (.s 8 (ws.map W.d)),.d (.s 8 (ws'.map W.d)),.u,.u,.d (.v (.bool false)),.u,.u] []) (.norm,slS (ws.map W.d) (ws'.map W.d) 0 .u):=by
   refine Ex.of (n:=60) ?_;unfold slS;simp -implicitDefEqProofs[f1046]
  cases hr:(ws.zip ws').all fun p=>p.1.eq p.2 with
  | true =>
   rw[hr,if_pos rfl]at hloop;have sD:Ex E1 f1046.body.r.r.r (slS (ws.map W.d) (ws'.map W.d) ws.length (.d (.v (.bool false)))) (.ret,(st0 [.u,.u,.d (.v (.bool true)),.u,.u,.u,.u] [])):=by
    refine Ex.of (n:=60) ?_;unfold slS;simp -implicitDefEqProofs[f1046]
   refine Ca.body (o:=.ret) rfl (k1046:E1.fn _=_) rfl (sA.seq (sB.seq (Ex.seq (sC.seq (Ex.block hloop)) sD))) (by simp) ?_;simp[show f1046.res=[.var 2] from rfl,show f1046.ref=false from rfl]
  | false =>
   rw[hr,if_neg (by simp)]at hloop;refine Ca.body (o:=.ret) rfl (k1046:E1.fn _=_) rfl (sA.seq (sB.seq (Ex.bM (sC.seq (Ex.bB hloop))))) (by simp) ?_;simp[show f1046.res=[.var 2] from rfl,show f1046.ref=false from rfl]
 ·have hd:decide ((ws.length:Int)=ws'.length)=false:=by simp;omega
  have hne:((ws.length:Int) != (ws'.length:Int))=true:=by simp;omega
  rw[hd,Bool.false_and];refine Ca.bD (n:=100) ?_;rw[av rfl (k1046:E1.fn _=_) rfl];rw[<-n1,<-n2]at hne;generalize ws.map W.d=es,ws'.map W.d=es' at*;simp -implicitDefEqProofs[f1046,hne]
def qP (kk:Int)(ps:List Int)(sy st:Int)(aN fin:List W)(ah:List (Ar α))(EL:Int)(ps':List Int)(DL st':Int)(jV fin':List W)(dD:List (Ar α))(e:α->W):Bool :=
 fH kk ps EL ps'&&(decide (sy=DL)&&(decide (st=st')&&(dU aN jV&&(dU fin fin'&&FY e ah dD))))
def saL:aG:=f1014.body.r.r.l.r.bl.lp
def saS (b1 b2:ae)(j:Nat)(t:FV):St:=(st0 [.u,.u,.r (.loc 0) 0,.r (.loc 1) 0,.u,.d (.v (.int .i64 j)),.u,t,.u] [b1,b2])
theorem AA (kk:Int)(ps:List Int)(sy st:Int)(aN fin:List W)(ah:List (Ar α))(EL:Int)(ps':List Int)(DL st':Int)(jV fin':List W)(dD:List (Ar α))(hl:ps.length<=1000000)(hl':ps'.length<=1000000)
  (h1:aN.length<=1000000) (h2:fin.length<=1000000) (h3:ah.length<=1000000) (o1:∀ w ∈ aN,w.OK) (o2:∀ w ∈ fin,w.OK) (o3:∀ a ∈ ah,(e a.x).OK) (QG:∀ w ∈ jV,w.OK) (QH:∀ w ∈ fin',w.OK) (o3':∀ a ∈ dD,(e a.x).OK) :
  Ca E1 1014 [.d (jf kk ps sy st aN fin e ah),.d (jf EL ps' DL st' jV fin' e dD)] (.d (.v (.bool (qP kk ps sy st aN fin ah EL ps' DL st' jV fin' dD e))),none):=by
 obtain⟨K,hK,t1,t2,t3⟩:=((Ca.dW (PH kk EL ps ps' (by omega) (by omega))).j ((Az aN jV h1 o1 QG).j ((Az fin fin' h2 o2 QH).any))).at 0;have n3:(ah.map (Ar.d e)).length=ah.length:=by simp
 have n3':(dD.map (Ar.d e)).length=dD.length:=by simp
 have sA:Ex E1 f1014.body.l (st0 [.d (jf kk ps sy st aN fin e ah),.d (jf EL ps' DL st' jV fin' e dD),.u,.u,.u,.u,.u,.u,.u] [])
   (.norm,(st0 [.u,.u,.r (.loc 0) 0,.r (.loc 1) 0,.u,.u,.u,.u,.u] [aO kk ps sy st (aN.map W.d) (fin.map W.d) (ah.map (Ar.d e)),aO EL ps' DL st' (jV.map W.d) (fin'.map W.d) (dD.map (Ar.d e))])):=by
  refine Ex.of (n:=60) ?_;unfold jf fA aO;simp -implicitDefEqProofs[f1014]
 -- the heads
 have sB:Ex E1 f1014.body.r.l (st0 [.u,.u,.r (.loc 0) 0,.r (.loc 1) 0,.u,.u,.u,.u,.u] [aO kk ps sy st (aN.map W.d) (fin.map W.d) (ah.map (Ar.d e)),aO EL ps' DL st' (jV.map W.d) (fin'.map W.d) (dD.map (Ar.d e))])
   (if fH kk ps EL ps'&&(decide (sy=DL)&&(decide (st=st')&&(dU aN jV&&(dU fin fin'&&decide ((ah.length:Int)=dD.length)))))
    then(.norm,(st0 [.u,.u,.r (.loc 0) 0,.r (.loc 1) 0,.u,.u,.d (.v (.bool false)),.u,.u] [aO kk ps sy st (aN.map W.d) (fin.map W.d) (ah.map (Ar.d e)),aO EL ps' DL st' (jV.map W.d) (fin'.map W.d) (dD.map (Ar.d e))]))
    else(.ret,(st0 [.u,.u,.u,.u,.d (.v (.bool false)),.u,.u,.u,.u] [aO kk ps sy st (aN.map W.d) (fin.map W.d) (ah.map (Ar.d e)),aO EL ps' DL st' (jV.map W.d) (fin'.map W.d) (dD.map (Ar.d e))]))):=by
  refine Ex.of (n:=K+200) ?_;clear sA o1 o2 o3 QG QH o3';generalize fH kk ps EL ps'=b1,dU aN jV=b2,dU fin fin'=b3,ah.length=m3,dD.length=m3' at*;unfold aO aP at*;generalize LK .i64 ps=l9 at*;generalize LK .i64 ps'=l9',aN.map W.d=es1,fin.map W.d=es2,ah.map (Ar.d e)=Xp,jV.map W.d=afN,fin'.map W.d=afO,dD.map (Ar.d e)=ac5 at*;cases b1
  ·simp -implicitDefEqProofs[f1014,t1]
  by_cases c1:sy=DL
  rotate_left
  ·have c1':(sy != DL)=true:=by simpa using c1
   simp -implicitDefEqProofs[f1014,t1,c1,c1']
  have c1':(sy != DL)=false:=by simpa using c1
  have d1:decide (sy=DL)=true:=by simpa using c1
  rw[d1];clear c1 d1
  by_cases c2:st=st'
  rotate_left
  ·have c2':(st != st')=true:=by simpa using c2
   simp -implicitDefEqProofs[f1014,t1,c1',c2,c2']
  have c2':(st != st')=false:=by simpa using c2
  have d2:decide (st=st')=true:=by simpa using c2
  rw[d2];clear c2 d2;cases b2
  ·simp -implicitDefEqProofs[f1014,t1,t2,c1',c2']
  cases b3
  ·simp -implicitDefEqProofs[f1014,t1,t2,t3,c1',c2']
  by_cases c3:(m3:Int)=m3'
  ·have c3':((m3:Int) != m3')=false:=by simpa using c3
   have d3:decide ((m3:Int)=m3')=true:=by simpa using c3
   rw[d3];clear c3 d3;simp -implicitDefEqProofs[f1014,t1,t2,t3,c1',c2',c3',n3,n3']
  ·have c3':((m3:Int) != m3')=true:=by simpa using c3
   have d3:decide ((m3:Int)=m3')=false:=by simpa using c3
   rw[d3];clear c3 d3;simp -implicitDefEqProofs[f1014,t1,t2,t3,c1',c2',c3',n3,n3']
 unfold qP FY
 by_cases hlen:ah.length=dD.length
 ·have hd:decide ((ah.length:Int)=dD.length)=true:=by simp[hlen]
  rw[hd,Bool.true_and];rw[hd]at sB;simp only[Bool.and_true]at sB;have hzl:(ah.zip dD).length=ah.length:=by rw[List.length_zip];omega
  generalize hb1:aO kk ps sy st (aN.map W.d) (fin.map W.d) (ah.map (Ar.d e))=bx1 at*;generalize hb2:aO EL ps' DL st' (jV.map W.d) (fin'.map W.d) (dD.map (Ar.d e))=bx2 at*;have hloop:=Ex.mI (E:=E1) (b:=saL) (ah.zip dD) (fun p=>decide (iW p.1 p.2=0)&&(e p.1.x).eq (e p.2.x)) (fun j=>saS bx1 bx2 j .u) (.exit 0,saS bx1 bx2 ah.length (.d (.v (.bool false))))
   (.ret,(st0 [.u,.u,.u,.u,.d (.v (.bool false)),.u,.u,.u,.u] [bx1,bx2])) (by simp) (by simp)
   (fun j p hp=>by
    obtain⟨x,y⟩:=p;have hj:j<(ah.zip dD).length:=(aW hp)
    obtain⟨hx,hy⟩:=List.getElem?_zip_eq_some.1 hp;obtain⟨M,hM,u1,u2⟩:=((Ca.dW (oZ (e x.x) (o3 x (List.mem_of_getElem? hx)) (e y.x) (o3' y (List.mem_of_getElem? hy)))).j ((Ov e x y).any)).at 0;have hj0:(0:Int)<=(j:Int):=by omega
    have aQ:ak .i64 ((j:Int)+1)=(j:Int)+1:=wrap_i64 (by omega);have hk1:((j+1:Nat):Int)=(j:Int)+1:=by omega
    have e1:(ah.map (Ar.d e))[j]?=some (x.d e):=by simp[hx]
    have e2:(dD.map (Ar.d e))[j]?=some (y.d e):=by simp[hy]
    have hjl:(j:Int)<(ah.length:Int):=by omega
    obtain⟨s,l1,l2,c,b,u,q,qs,ew,ex⟩:=x.dN e;obtain⟨s',l1',l2',c',b',u',q',qs',Zn,ey⟩:=y.dN e;simp only[ew,Zn]at u1;simp only[ex,ey]at u2 e1 e2;subst hb1;subst hb2;clear sA sB o1 o2 o3 QG QH o3' t1 t2 t3 hp hx hy;unfold aO wD nW at*;generalize LK .i64 ps=l9 at*;generalize LK .i64 ps'=l9',aN.map W.d=es1,fin.map W.d=es2,ah.map (Ar.d e)=Xp,jV.map W.d=afN,fin'.map W.d=afO,dD.map (Ar.d e)=ac5 at*;have i0:=idx e1;have i1:=idx e2;have fM:j<Xp.length:=(aW e1)
    have QF:j<ac5.length:=(aW e2)
    rw[<-n3]at hjl;generalize (e x.x).eq (e y.x)=r,iW x y=od at*;refine Ex.of (n:=M+200) ?_;unfold saS
    by_cases h0:od=0
    ·have h0':(od != 0)=false:=by simpa using h0
     have hd0:decide (od=0)=true:=by simpa using h0
     rw[hd0,Bool.true_and];clear h0 hd0;cases r
     ·rw[if_neg (by simp)];simp -implicitDefEqProofs[saL,f1014,u1,u2,h0',hj0,fM,QF,hjl,e1,e2,i0,i1]
     ·rw[if_pos rfl,hk1];simp -implicitDefEqProofs[saL,f1014,u1,u2,h0',hj0,fM,QF,hjl,e1,e2,i0,i1,aQ]
    ·have h0':(od != 0)=true:=by simpa using h0
     have hd0:decide (od=0)=false:=by simpa using h0
     rw[hd0,Bool.false_and,if_neg (by simp)];simp -implicitDefEqProofs[saL,f1014,u2,h0',hj0,fM,QF,hjl,e1,e2,i0,i1])
   (by
    rw[hzl];refine Ex.of (n:=60) ?_;subst hb1;subst hb2;unfold saS aO;rw[<-n3];generalize ah.map (Ar.d e)=Xp at*;simp -implicitDefEqProofs[saL,f1014])
  have sC:Ex E1 f1014.body.r.r.l.l (st0 [.u,.u,.r (.loc 0) 0,.r (.loc 1) 0,.u,.u,.d (.v (.bool false)),.u,.u] [bx1,bx2]) (.norm,saS bx1 bx2 0 .u):=by
   refine Ex.of (n:=60) ?_;unfold saS;simp -implicitDefEqProofs[f1014]
  have sD:Ex E1 f1014.body.r.r.r (saS bx1 bx2 ah.length (.d (.v (.bool false)))) (.ret,(st0 [.u,.u,.u,.u,.d (.v (.bool true)),.u,.u,.u,.u] [bx1,bx2])):=by
   refine Ex.of (n:=60) ?_;unfold saS;simp -implicitDefEqProofs[f1014]
  have ac6:∀ b:Bool,finish f1014 (st0 [.u,.u,.u,.u,.d (.v (.bool b)),.u,.u,.u,.u] [bx1,bx2])=some (.d (.v (.bool b)),none):=by
   intro b;simp[show f1014.res=[.var 4] from rfl,show f1014.ref=false from rfl]
  generalize hq:(ah.zip dD).all (fun p=>decide (iW p.1 p.2=0)&&(e p.1.x).eq (e p.2.x))=q at*;have ac7:(fH kk ps EL ps'&&(decide (sy=DL)&&(decide (st=st')&&(dU aN jV&&(dU fin fin'&&q)))))=((fH kk ps EL ps'&&(decide (sy=DL)&&(decide (st=st')&&(dU aN jV&&dU fin fin'))))&&q):=by
   simp only[Bool.and_assoc]
  rw[ac7];generalize (fH kk ps EL ps'&&(decide (sy=DL)&&(decide (st=st')&&(dU aN jV&&dU fin fin'))))=hd2 at*;cases hd2 with
  | false =>
   rw[if_neg (by simp)]at sB;exact Ca.body (o:=.ret) rfl (k1014:E1.fn _=_) rfl (sA.seq (Ex.bM sB)) (by simp) (ac6 false)
  | true =>
   rw[if_pos rfl]at sB;cases q with
   | true =>
    rw[if_pos rfl]at hloop;exact Ca.body (o:=.ret) rfl (k1014:E1.fn _=_) rfl (sA.seq (sB.seq (Ex.seq (sC.seq (Ex.block hloop)) sD))) (by simp) (ac6 true)
   | false =>
    rw[if_neg (by simp)]at hloop;exact Ca.body (o:=.ret) rfl (k1014:E1.fn _=_) rfl (sA.seq (sB.seq (Ex.bM (sC.seq (Ex.bB hloop))))) (by simp) (ac6 false)
 ·have hd:decide ((ah.length:Int)=dD.length)=false:=by simp;omega
  rw[hd]at sB ⊢;simp only[Bool.and_false,Bool.false_and]at sB ⊢;rw[if_neg (by simp)]at sB;exact Ca.body (o:=.ret) rfl (k1014:E1.fn _=_) rfl (sA.seq (Ex.bM sB)) (by simp) (by simp[show f1014.res=[.var 4] from rfl,show f1014.ref=false from rfl])
end
end Fi.S
noncomputable section
namespace Fi.S
open Go Fi
set_option maxHeartbeats 8000000
set_option maxRecDepth 10000
variable {α:Type} {e:α->W}
theorem J5 (k:Int)(ps:List Int):fH k ps k ps=true:=by simp[fH]
theorem DN:∀ ws:List W,dU ws ws=true:=by
 intro ws;unfold dU;simp only[decide_true,Bool.true_and,List.all_eq_true];intro p hp;obtain⟨i,hi⟩:=List.mem_iff_getElem?.1 hp;rw[List.getElem?_zip_eq_some]at hi;rw[jT hi.1 hi.2];exact W.Bt _
theorem ML (aq:List (Ar α)):FY e aq aq=true:=by
 unfold FY;simp only[decide_true,Bool.true_and,List.all_eq_true];intro p hp;obtain⟨i,hi⟩:=List.mem_iff_getElem?.1 hp;rw[List.getElem?_zip_eq_some]at hi;rw[jT hi.1 hi.2,W.Bt];have:iW p.2 p.2=0:=by
  rw[xS];exact⟨rfl,rfl,rfl⟩
 simp[this]
theorem xV (kk:Int)(ps:List Int)(sy st:Int)(aN fin:List W)(ah:List (Ar α)):qP kk ps sy st aN fin ah kk ps sy st aN fin ah e=true:=by
 unfold qP;rw[J5,DN,DN,ML];simp
theorem nH (kk:Int)(ps:List Int)(sy st:Int)(aN fin:List W)(ah:List (Ar α))(hl:ps.length<=1000000)
  (h1:aN.length<=1000000) (h2:fin.length<=1000000) (h3:ah.length<=1000000) (o1:∀ w ∈ aN,w.OK) (o2:∀ w ∈ fin,w.OK) (o3:∀ a ∈ ah,(e a.x).OK) :
  Ca E1 1014 [.d (jf kk ps sy st aN fin e ah),.d (jf kk ps sy st aN fin e ah)] (.d (.v (.bool true)),none):=by
 have h:=AA kk ps sy st aN fin ah kk ps sy st aN fin ah hl hl h1 h2 h3 o1 o2 o3 o1 o2 o3;rw[xV]at h;exact h
theorem VE (e:α->W):zF=jf 0 [] 0 0 [] [] e []:=rfl
def Both (r:FV)(sy sb:Int)(w:W)(rd:D):Prop:=∃ A er,(∃ a b c d f g h,A=fA a b c d f g h)/\r=.d (.t [A,.v (.int .i64 er)]) /\
 Ca E1 1012 [.d rd,.d (.v (.int .i64 sy)),.d (.v (.int .i64 sb)),.d w.d] (r,none)/\Ca E1 1013 [.d rd,.d (.v (.int .i64 sy)),.d (.v (.int .i64 sb)),.d w.d] (r,none)/\Ca E1 1014 [.d A,.d A] (.d (.v (.bool true)),none)
theorem zG {pl:α->α->α}{fJ:α->Bool}(l:List (Ar α))(n:Nat)(h:l.length<=n):(lK pl fJ l).length<=n:=by
 have hf:∀ (l p:List (Ar α)),(l.foldl (fun p x=>bY pl x p) p).length<=p.length+l.length:=by
  intro l
  induction l with
  | nil=>intro p;simp
  | cons x l ih =>
   intro p;have:=ih (bY pl x p);have:=wh pl x p;simp only[List.foldl_cons,List.length_cons];omega
 have h1:=List.length_filter_le (fun a => !fJ a.x) (dS pl l);have h2:=hf l [];unfold lK;unfold dS at*;simp only[List.length_nil]at h2;omega
end Fi.S
