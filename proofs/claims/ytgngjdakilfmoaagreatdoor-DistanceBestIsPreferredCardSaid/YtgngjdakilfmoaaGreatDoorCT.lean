import Derived.Test.YtgngjdakilfmoaaGreatDoorCS
set_option linter.unusedVariables false
set_option linter.unusedSimpArgs false
noncomputable section
namespace Fi.S
open Go Fi
set_option maxHeartbeats 8000000
section
variable {α:Type} {e:α->W}
theorem WV (n:Nat)(x y z x' y' z':Int):CL E0 (n+300) 1090 [.d (.s 1 [vI x,vI y,vI z]),.d (.s 1 [vI x',vI y',vI z'])] [] =
  some (dI (or3 (f_ x x') (f_ y y') (f_ z z')),none):=by
 have w1:ak .i64 1=1:=wrap_i64 ae;have w2:ak .i64 2=2:=wrap_i64 ae;have w3:ak .i64 3=3:=wrap_i64 ae;rw[aA rfl (k1090:E0.fn _=_) rfl];unfold or3;rcases gV x x' with ⟨h,h'⟩|⟨h,h'⟩|⟨h,h'⟩
 ·rw[h,if_neg ae];simp[f1090,aD,w1,w2,w3,h']
 ·subst h';rw[h,if_pos rfl];rcases gV y y' with ⟨k,k'⟩|⟨k,k'⟩|⟨k,k'⟩
  ·rw[k,if_neg ae];simp[f1090,aD,w1,w2,w3,k']
  ·subst k';rw[k,if_pos rfl];rcases gV z z' with ⟨m,m'⟩|⟨m,m'⟩|⟨m,m'⟩
   ·rw[m];simp[f1090,aD,w1,w2,w3,m']
   ·subst m';rw[m];simp[f1090,aD,w1,w2,w3]
   ·have m2:¬ z<z':=ae;rw[m];simp[f1090,aD,w1,w2,w3,m',m2]
  ·have k2:¬ y<y':=ae;rw[k,if_neg ae];simp[f1090,aD,w1,w2,w3,k',k2]
 ·have h2:¬ x<x':=ae;rw[h,if_neg ae];simp[f1090,aD,w1,w2,w3,h',h2]
theorem RV (e:α->W)(n:Nat)(a b:Ar α):CL E0 (n+400) 1047 [.d (a.d e),.d (b.d e)] []=some (dI (lQ a b),none):=by
 obtain⟨s,l1,l2,c,i,u,p,ps,_,ea⟩:=a.iA e;obtain⟨s',l1',l2',c',i',u',p',ps',_,eb⟩:=b.iA e;rw[ea,eb];have t:=fun m=>WV m a.f a.l a.t b.f b.l b.t
 unfold lQ;generalize or3 (f_ a.f b.f) (f_ a.l b.l) (f_ a.t b.t)=r at*;rw[aA rfl (aO 1047 f1047:E0.fn _=_) rfl];unfold rV;simp[f1047,t]
end
section
variable {α:Type} {e:α->W}
theorem WW (e:α->W)(a b:Ar α):Ca E1 1047 [.d (a.d e),.d (b.d e)] (dI (lQ a b),none):=Ca.gM (Ca.bQ (RV e 0 a b))
def PL:aF:=f1089.body.r.r.l.r.bl.lp
def baM:aF:=f1089.body.r.r.l.r.bl.lp.r.l.bl.r.r.r.l.bl.lp
def Gh (es:FV)(xi:Nat)(out:FV)(i k:Nat)(t:FV)(L:List ah):St :=
 (st0 [.u,es,rL 0,.u,out,dI i,rL xi,dI k,.u,.u,.u,t,.u,.u,.u] L)
theorem aa9 (es:FV)(xi:Nat)(out:FV)(i:Nat)(L:List ah)(aq:List (Ar α))(x:Ar α)(ho:kS e 0 out L aq)(has:aq.length<=1000000)(hx:L[xi]?=some (.box ((x.d e).cells.map .d))) :
  Ex E1 (.loop baM) (Gh es xi out i 0 .u L) (.exit 2,Gh es xi out i ((aq.findIdx? fun y => !decide (je y x)).getD aq.length) (dB false) L):=by
 have hout:∀ (K:Prop),(out=.d (.n 11)/\aq=[]->K)->(∀ i av,out=.ls (.loc i) av 11 0 aq.length->L[i]?=some (.row av 11 (aq.map (Ar.d e)))->K)->K:=by
  intro K h1 h2;rcases ho with h|⟨i,av,_,h,h'⟩
  ·exact h1 h
  ·exact h2 i av h h'
 have h:=Ex.DV (E:=E1) (b:=baM) aq (fun y => !decide (je y x)) (fun k=>Gh es xi out i k .u L) (.exit 2,Gh es xi out i aq.length (dB false) L) (fun k=>(.exit 2,Gh es xi out i k (dB false) L)) aC aC
  (fun j y hy=>by
   have hj:j<aq.length:=(aT hy)
   obtain⟨N,t⟩:=(WW e y x).get;refine hout _ (fun h=>by rw[h.2]at hy;simp at hy) (fun oi av hoe hrow => ?_);subst hoe;have hjn:(j:Int)<(aq.length:Int):=ae;have hj0:(0:Int)<=(j:Int):=ae;have aW:ak .i64 ((j:Int)+1)=(j:Int)+1:=wrap_i64 ae;have hk1:((j+1:Nat):Int)=(j:Int)+1:=ae;have e1:(aq.map (Ar.d e))[j]?=some (y.d e):=by simp[hy]
   have hlt:=H_ y x;obtain⟨s,l1,l2,c,b,u,p,q,_,ex⟩:=x.iA e;obtain⟨s',l1',l2',c',b',u',p',q',_,ey⟩:=y.iA e;simp only[ex,ey]at t e1 hx;unfold rV at*;have hel:(aq.map (Ar.d e)).length=aq.length:=aC;generalize aq.map (Ar.d e)=es',aq.length=n,lQ y x=od at*;have i0:=idx e1;have i1:=idx hx;have i2:=idx hrow;have jJ:j<es'.length:=(aT e1)
   have lx:xi<L.length:=(aT hx)
   have lo:oi<L.length:=(aT hrow)
   refine Ex.of (n:=N+200) ?_;unfold Gh
   by_cases h1:je y x
   ·have h2:=hlt.2 h1;have hd:(!decide (je y x))=false:=by simp[h1]
    rw[hd,if_neg aC,hk1];clear hlt h1 hd;simp[baM,f1089,t,hj0,hjn,jJ,aW,e1,i0,i1,i2,hx,hrow,h2,lx,lo]
   ·have h2:¬ od<0:=fun h=>h1 (hlt.1 h)
    have h3:0<=od:=ae;have hd:(!decide (je y x))=true:=by simp[h1]
    rw[hd,if_pos rfl];clear hlt h1 hd;simp[baM,f1089,t,hj0,hjn,jJ,e1,i0,i1,i2,hx,hrow,h2,h3,lx,lo])
  (by
   refine hout _ (fun h => ?_) (fun oi av hoe hrow => ?_)
   ·obtain⟨rfl,rfl⟩:=h;refine Ex.of (n:=100) ?_;unfold Gh;simp[baM,f1089]
   ·subst hoe;refine Ex.of (n:=100) ?_;unfold Gh;generalize aq.length=n at*;simp[baM,f1089])
 cases hf:aq.findIdx? (fun y => !decide (je y x)) with
 | none=>rw[hf]at h;exact h
 | some k=>rw[hf]at h;exact h
end
section
variable {α:Type} {e:α->W}
def baP:aF:=f1089.body.r.r.l.r.bl.lp.r.l.bl.r.r.r.r
def wV (es:FV)(out:FV)(i:Nat)(t:FV)(L:List ah):St :=
 (st0 [.u,es,rL 0,.u,out,dI i,.u,.u,.u,.u,t,.u,.u,.u,.u] L)
theorem aeO (es:FV)(xi:Nat)(out:FV)(i k:Nat)(L:List ah)(aq:List (Ar α))(x:Ar α)(ho:kS e 0 out L aq)(has:aq.length<=1000000)(hk:k<=aq.length)(hx:L[xi]?=some (.box ((x.d e).cells.map .d)))(hno:∀ y,aq[k]?=some y->lQ y x≠0)(h0:0<L.length) :
  ∃ out' L',Ex E1 baP (Gh es xi out i k (dB false) L) (.norm,wV es out' i .u L')/\(∀ j o,j<L.length->L[j]?=some o->L'[j]?=some o)/\kS e 0 out' L' (aq.take k++x::aq.drop k):=by
 have lx:xi<L.length:=(aT hx)
 have gx:∀ X,(L++X)[xi]?=some (.box ((x.d e).cells.map .d)):=fun X=>by rw[Qa0 lx];exact hx
 have keep:∀ X (j:Nat) (o:ah),j<L.length->L[j]?=some o->(L++X)[j]?=some o:=fun X j o h1 h2=>by rw[Qa0 h1];exact h2
 have sA:∀ c c':ah,(L++[c]).set L.length c'=L++[c']:=fun c c'=>by simp
 obtain⟨s,l1,l2,c,b,u,p,q,_,ex⟩:=x.iA e;rcases ho with ⟨rfl,rfl⟩|⟨oi,av,_,rfl,hrow⟩
 ·obtain rfl:k=0:=by simpa using hk
  refine⟨.ls (.loc L.length) 1 11 0 1,L++[.row 1 11 [x.d e]],?_,keep _,.inr ⟨L.length,1,ae,rfl,aC⟩⟩;rw[ex]at hx gx ⊢;unfold rV at*;have i1:=idx hx;have i2:=fun X=>idx (gx X)
  refine Ex.of (n:=200) ?_;unfold Gh wV;simp[baP,f1089,kL,G5,hx,sA,most]
 ·have lo:oi<L.length:=(aT hrow)
  have gr:∀ X,(L++X)[oi]?=some (.row av 11 (aq.map (Ar.d e))):=fun X=>by rw[Qa0 lo];exact hrow
  have hel:(aq.map (Ar.d e)).length=aq.length:=aC;have hk0:(0:Int)<=(k:Int):=ae;have hkn:(k:Int)<=(aq.length:Int):=ae;have tkd:List.take (aq.length-k) (List.drop k (aq.map (Ar.d e)))=List.drop k (aq.map (Ar.d e)):=Qe1 aC;have tkn:List.take aq.length (aq.map (Ar.d e))=aq.map (Ar.d e):=Qe1 aC;have hv:(ah.row av 11 (aq.map (Ar.d e))).view av 11 k (aq.length-k)=some (List.drop k (aq.map (Ar.d e))):=by
   have h1:k+(aq.length-k)<=(aq.map (Ar.d e)).length:=by rw[hel];omega
   simp only[ah.view,h1,and_self,if_true,tkd]
  have hv0:(ah.row av 11 (aq.map (Ar.d e))).view av 11 0 k=some (List.take k (aq.map (Ar.d e))):=by
   have h1:0+k<=(aq.map (Ar.d e)).length:=by rw[hel];omega
   simp only[ah.view,h1,and_self,if_true,Xv2]
  have hfin:(aq.take k++x::aq.drop k).map (Ar.d e)=List.take k (aq.map (Ar.d e))++(x.d e::List.drop k (aq.map (Ar.d e))):=by simp[List.map_take,List.map_drop]
  have hfl:(aq.take k++x::aq.drop k).length=aq.length+1:=by simp;omega
  have ltk:(List.take k (aq.map (Ar.d e))).length=k:=by simp;omega
  have ldk:(List.drop k (aq.map (Ar.d e))).length=aq.length-k:=aC;have nk:aq.length-k<=1000000:=ae
  -- is an arc at k,at another place?
  have hcond:∃ N,∀ m,EX E1 (N+m) baP.l (Gh es xi (.ls (.loc oi) av 11 0 aq.length) i k (dB false) L)=some (.norm,{Gh es xi (.ls (.loc oi) av 11 0 aq.length) i k .u L with vars:=[.u,es,rL 0,.u,.ls (.loc oi) av 11 0 aq.length,dI i,rL xi,dI k,.u,.u,.u,.u,dB false,.u,.u]}):=by
   rcases Qg0 k aq.length with hlt|hge
   ·have hy:aq[k]?=some aq[k]:=Qa1 hlt;obtain⟨N,t⟩:=(WW e aq[k] x).get;have hne:=hno _ hy;have hne2:(lQ aq[k] x==0)=false:=by simpa using hne
    generalize aq[k]=y at*;generalize lQ y x=od at*;have e1:(aq.map (Ar.d e))[k]?=some (y.d e):=by simp[hy]
    have hkl:(k:Int)<(aq.length:Int):=ae;obtain⟨s',l1',l2',c',b',u',p',q',_,ey⟩:=y.iA e;simp only[ex,ey]at t e1 hx;unfold rV at*;generalize aq.map (Ar.d e)=es',aq.length=n at*;have i0:=idx e1;have i1:=idx hx;have i2:=idx hrow;have jJ:k<es'.length:=(aT e1)
    refine⟨N+200,fun m => ?_⟩;rw[show N+200+m=(N+m)+200 by omega];replace t:=fun j=>dC (t 0) (show N+0<=N+m+j by omega)
    unfold Gh;simp[baP,f1089,t,hk0,hkl,jJ,i0,i1,i2,hne2,lx,lo]
   ·refine⟨200,fun m => ?_⟩;have hkl:¬ (k:Int)<(aq.length:Int):=ae;have qB:(aq.length:Int)<=(k:Int):=ae;rw[show 200+m=m+200 by omega];unfold Gh;generalize aq.length=n at*;simp[baP,f1089,hkl]
  obtain⟨N,hcond⟩:=hcond;rcases Qr2 k with rfl|hpos
  ·have m1:(1+aq.length)*152<=1099511627776:=ae;have m2:1+aq.length<=1099511627776:=ae;refine⟨.ls (.loc L.length) 1 11 0 (1+aq.length),L++[.row 1 11 (x.d e::aq.map (Ar.d e))],Ex.seq (Ex.of (hcond 0)) ?_,keep _,.inr ⟨L.length,1,ae,by rw[hfl,Xp2],by rw[hfin];simp⟩⟩;clear hcond hfin hno;simp only[X21,Xv2]at hv;rw[ex]at hx gx ⊢;unfold rV at*;generalize aq.map (Ar.d e)=es',aq.length=n at*;have i1:=idx hx;have i2:=fun X=>idx (gx X)
   refine Ex.of (n:=200) ?_;unfold Gh wV;simp[kL,G5,hx,gr,hrow,sA,most,hv,hv0,m1,m2,hel]
  ·have hne:(List.take k (aq.map (Ar.d e))).isEmpty=false:=by
    cases h:List.take k (aq.map (Ar.d e)) with
    | nil=>rw[h]at ltk;simp at ltk;omega
    | cons a r=>rfl
   have hne2:List.take k (aq.map (Ar.d e))≠[]:=by intro h;rw[h]at hne;cases hne
   have m1:k*152<=1099511627776:=ae;have m2:k<=1099511627776:=ae;have m3:(k+1)*152<=1099511627776:=ae;have m4:k+1<=1099511627776:=ae;have m5:(k+1+(aq.length-k))*152<=1099511627776:=ae;have m6:k+1+(aq.length-k)<=1099511627776:=ae;refine⟨.ls (.loc L.length) 2 11 0 (k+1+(aq.length-k)),L++[.row 2 11 (List.take k (aq.map (Ar.d e))++(x.d e::List.drop k (aq.map (Ar.d e))))],Ex.seq (Ex.of (hcond 0)) ?_,keep _,.inr ⟨L.length,2,ae,by rw[hfl];congr 1;omega,by rw[hfin];simp⟩⟩;clear hcond hfin hno;rw[ex]at hx gx ⊢;unfold rV at*;generalize aq.map (Ar.d e)=es' at*;have tk1:∀ v:D,List.take (k+1) (List.take k es'++[v])=List.take k es'++[v]:=fun v=>Qe1 (by rw[Qb0,ltk];simp)
   generalize hT:List.take k es'=T at*;generalize hD:List.drop k es'=T2 at*;generalize aq.length=n at*;have i1:=idx hx;have i2:=fun X=>idx (gx X)
   have tT:List.take k T=T:=Qe1 ae;refine Ex.of (n:=200) ?_;unfold Gh wV;simp[kL,G5,gx,gr,hrow,sA,most,hv,hv0,hk0,hkn,hne,m1,m2,m3,m4,m5,m6,ltk,ldk,tk1,tT]
theorem aa_ (kk:Int)(ps:List Int)(es:FV)(xi:Nat)(out:FV)(i k:Nat)(L:List ah)(aq:List (Ar α))(x y:Ar α)(pl:α->α->α)(ho:kS e 0 out L aq)(has:aq.length<=1000000)(hy:aq[k]?=some y)(hx:L[xi]?=some (.box ((x.d e).cells.map .d)))(heq:lQ y x=0)(h0:L[0]?=some (aR kk ps))
  (hp:Ca E1 19 [.d (aU kk ps),.d (e y.x).d,.d (e x.x).d] (.d (e (pl y.x x.x)).d,none)) :
  ∃ L',Ex E1 baP (Gh es xi out i k (dB false) L) (.exit 1,wV es out i .u L')/\L'[0]?=some (aR kk ps)/\kS e 0 out L' (aq.set k (jg pl y x)):=by
 have lx:xi<L.length:=(aT hx)
 obtain⟨N2,t2⟩:=hp.any;obtain⟨N3,t3⟩:=(WW e y x).any;rcases ho with ⟨_,h⟩|⟨oi,av,ho0,rfl,hrow⟩
 ·rw[h]at hy;simp at hy
 ·obtain⟨K,hK⟩:∃ K,K=N2+N3:=⟨_,rfl⟩
  replace t2:=t2 K ae;replace t3:=t3 K ae;rw[heq]at t3;have lo:oi<L.length:=(aT hrow)
  have hkl:k<aq.length:=(aT hy)
  have qB:(k:Int)<(aq.length:Int):=ae;have hk0:(0:Int)<=(k:Int):=ae;have e1:(aq.map (Ar.d e))[k]?=some (y.d e):=by simp[hy]
  have hfin:(aq.set k (jg pl y x)).map (Ar.d e)=(aq.map (Ar.d e)).set k ((jg pl y x).d e):=by rw[Q51]
  refine⟨L.set oi (.row av 11 ((aq.map (Ar.d e)).set k ((jg pl y x).d e))),?_,by rw[Qb2 ho0];exact h0,.inr ⟨oi,av,ho0,aC,by rw[hfin];exact Qd1 lo⟩⟩;obtain⟨xs,l1,l2,c,b,u,p,ps',ew,ex⟩:=x.iA e;obtain⟨ys,TA,TB,yc,yb,yu,yp,yps,ew2,Gd⟩:=y.iA e;obtain⟨zs,wS,wT,zc,zb,zu,zp,BA,ez,WB⟩:=(jg pl y x).iA e;have KF:(e (pl y.x x.x)).d=wD zs wS wT zc zb zu zp BA:=ez;simp only[ex,KF,ew,Gd,ew2,WB]at t2 t3 e1 hx ⊢;have f1:(jg pl y x).f=y.f:=rfl;have f2:(jg pl y x).l=y.l:=rfl;have f3:(jg pl y x).t=y.t:=rfl;rw[f1,f2,f3];clear ew ex ez KF ew2 Gd WB hp hfin f1 f2 f3 heq;unfold aR aU wD rV at*;generalize aq.map (Ar.d e)=es2,aq.length=n at*;have i0:=idx e1;have i1:=idx hx;have i2:=idx hrow;have i3:=idx h0;have l0:0<L.length:=ae;have jJ:k<es2.length:=(aT e1)
  refine Ex.of (n:=K+300) ?_;unfold Gh wV;simp[baP,f1089,t2,t3,hk0,qB,jJ,i0,i1,i2,i3,lo,lx,l0]
end
section
variable {α:Type} {e:α->W} {pl:α->α->α} {z:W} {dS:α->Bool} {G:Nat->α->Prop} {m:Nat} {kk:Int} {ps:List Int}
theorem kS.keep {s:Nat}{out:FV}{L:List ah}{aq:List (Ar α)}(h:kS e s out L aq)(X:List ah):kS e s out (L++X) aq:=by
 rcases h with h|⟨i,av,h1,h2,h3⟩
 ·exact .inl h
 ·exact .inr ⟨i,av,h1,h2,by rw[Qa0 (aT h3)];exact h3⟩
theorem WX (hW:TH kk ps e pl z dS G m)(l:List (Ar α))(i n:Nat)(out:FV)(L:List ah)(aq:List (Ar α))(x:Ar α)(hl:l.length<=1000000)(hx:l[i]?=some x)(ho:kS e 0 out L aq)(has:aq.length<=1000000)(h0:L[0]?=some (aR kk ps))
  (hn:n<m) (hg:∀ a ∈ aq,G n a.x) (hgx:G 1 x.x) :
  ∃ out' L',Ex E1 PL (wV (.d (.s 11 (l.map (Ar.d e)))) out i .u L) (.norm,wV (.d (.s 11 (l.map (Ar.d e)))) out' (i+1) .u L')/\L'[0]?=some (aR kk ps)/\kS e 0 out' L' (bB pl x aq):=by
 have hi:i<l.length:=(aT hx)
 have hil:(i:Int)<(l.length:Int):=ae;have hi0:(0:Int)<=(i:Int):=ae;have aW:ak .i64 ((i:Int)+1)=(i:Int)+1:=wrap_i64 ae;have hk1:((i+1:Nat):Int)=(i:Int)+1:=ae;have e1:(l.map (Ar.d e))[i]?=some (x.d e):=by simp[hx]
 have hel:(l.map (Ar.d e)).length=l.length:=aC;have l0:0<L.length:=(aT h0)
 obtain⟨N,t⟩:=(hW.tk x.x hgx).get
 -- the arc is looked at,and its weight taken
 have s1:Ex E1 PL.l (wV (.d (.s 11 (l.map (Ar.d e)))) out i .u L) (.norm,wV (.d (.s 11 (l.map (Ar.d e)))) out i (dB true) L):=by
  apply e6;unfold wV;generalize l.map (Ar.d e)=es at*;rw[<-hel]at hil;simp[PL,f1089,hil]
 have s2 := nx s1 PL.r.l.bl.l {wV (.d (.s 11 (l.map (Ar.d e)))) out i .u L with vars:=(.u::.d (.s 11 (l.map (Ar.d e)))::rL 0::.u::out::dI i::rL L.length::zW),loc:=L++[.box ((x.d e).cells.map .d)]} (by
  have sA:∀ c c':ah,(L++[c]).set L.length c'=L++[c']:=fun c c'=>by simp
  apply e6;obtain⟨s,l1,l2,c,b,u,p,q,_,ex⟩:=x.iA e;rw[ex]at e1 ⊢;unfold wV rV at*;generalize l.map (Ar.d e)=es at*;have i0:=idx e1;have jJ:i<es.length:=(aT e1)
  simp[PL,f1089,hi0,jJ,e1,i0,sA])
 have s3 := nx s2 PL.r.l.bl.r.l {wV (.d (.s 11 (l.map (Ar.d e)))) out i .u L with vars:=(.u::.d (.s 11 (l.map (Ar.d e)))::rL 0::.u::out::dI i::rL L.length::zW),loc:=L++[.box ((x.d e).cells.map .d)]} (by
  have sA:∀ c c':ah,(L++[c]).set L.length c'=L++[c']:=fun c c'=>by simp
  have g0:∀ X,(L++X)[0]?=some (aR kk ps):=fun X=>by rw[Qa0 l0];exact h0
  refine Ex.of (n:=N+60) ?_;obtain⟨s,l1,l2,c,b,u,p,q,ew,ex⟩:=x.iA e;rw[ew]at t;rw[ex];unfold wV rV aR aU wD at*;generalize l.map (Ar.d e)=es at*;have i0:=fun X=>idx (g0 X)
  simp[PL,f1089,t,sA,g0,i0])
 have s4 := nx s3 PL.r.l.bl.r.r.l (Gh (.d (.s 11 (l.map (Ar.d e)))) L.length out i 0 .u (L++[.box ((x.d e).cells.map .d)])) (by
  apply e6;unfold wV Gh;simp[PL,f1089])
 have hbx:(L++[ah.box ((x.d e).cells.map .d)])[L.length]?=some (.box ((x.d e).cells.map .d)):=aC;have ho1:=ho.keep [.box ((x.d e).cells.map .d)];have s5:=aa9 (.d (.s 11 (l.map (Ar.d e)))) L.length out i _ aq x ho1 has hbx;rw[show(aq.findIdx? fun y => !decide (je y x)).getD aq.length=zw x aq from rfl]at s5;have s6:∀ out' L',Ex E1 PL.r.r (wV (.d (.s 11 (l.map (Ar.d e)))) out' i .u L') (.norm,wV (.d (.s 11 (l.map (Ar.d e)))) out' (i+1) .u L'):=by
  intro out' L';apply e6;unfold wV;rw[hk1];simp[PL,f1089,aW]
 have g1:(L++[ah.box ((x.d e).cells.map .d)])[0]?=some (aR kk ps):=by rw[Qa0 l0];exact h0
 by_cases hy:∃ y,aq[zw x aq]?=some y/\nJ y x
 ·obtain⟨y,hy,he⟩:=hy;obtain⟨L',h1,h2,h3⟩:=aa_ kk ps (.d (.s 11 (l.map (Ar.d e)))) L.length out i _ _ aq x y pl ho1 has hy hbx ((BD y x).2 he) g1 (hW.p2 n y.x x.x hn (hg _ (Qa2 hy)) hgx);rw[Au pl x y aq hy he];exact⟨out,L',s1.seq (Ex.seq (Ex.block (s2.seq (s3.seq (s4.seq (Ex.seq (Ex.block s5) h1))))) (s6 _ _)),h2,h3⟩
 ·have hno:∀ y,aq[zw x aq]?=some y->¬ nJ y x:=fun y h1 h2=>hy ⟨y,h1,h2⟩
  obtain⟨out',L',h1,h2,h3⟩:=aeO (.d (.s 11 (l.map (Ar.d e)))) L.length out i _ _ aq x ho1 has (aa2 x aq) hbx (fun y h1 h2=>hno y h1 ((BD y x).1 h2)) aC;rw[D5 pl x aq hno];exact⟨out',L',s1.seq (Ex.seq (Ex.eZ (s2.seq (s3.seq (s4.seq (Ex.seq (Ex.block s5) h1))))) (s6 _ _)),h2 0 _ aC g1,h3⟩
theorem aa' (hW:TH kk ps e pl z dS G m)(l:List (Ar α))(hl:l.length<=1000000)(hm:l.length<=m)(hg:∀ a ∈ l,G 1 a.x)(L:List ah)(h0:L[0]?=some (aR kk ps)) :
  ∃ out L',Ex E1 (.loop PL) (wV (.d (.s 11 (l.map (Ar.d e)))) (.d (.n 11)) 0 .u L) (.exit 0,wV (.d (.s 11 (l.map (Ar.d e)))) out l.length (dB false) L')/\L'[0]?=some (aR kk ps)/\kS e 0 out L' (dF pl l)/\(∀ a ∈ dF pl l,G (l.length+1) a.x)/\(dF pl l).length<=l.length:=by
 have hel:(l.map (Ar.d e)).length=l.length:=aC;have hG:∀ {x:α} {n k:Nat},G n x->n<=k->G k x:=by
  intro x n k h hk
  induction k with
  | zero => obtain rfl : n = 0 :=ae
            exact h
  | succ k ih =>
   rcases Q71 hk with rfl|h2
   ·exact h
   ·exact hW.mono _ _ (ih ae)
 obtain⟨r,h1,out,L',h2,h3,h4,h5,h6⟩:=Ex.fold (E:=E1) (b:=PL) l (fun p x=>bB pl x p) []
  (fun j acc st=>∃ out L,st=wV (.d (.s 11 (l.map (Ar.d e)))) out j .u L/\L[0]?=some (aR kk ps)/\kS e 0 out L acc/\(∀ a ∈ acc,G j a.x)/\acc.length<=j)
  (fun acc r=>∃ out L,r=(.exit 0,wV (.d (.s 11 (l.map (Ar.d e)))) out l.length (dB false) L)/\L[0]?=some (aR kk ps)/\kS e 0 out L acc/\(∀ a ∈ acc,G l.length a.x)/\acc.length<=l.length)
  (fun j x st hx ⟨out,L,hst,g0,g1,g2,g3⟩=>by
   subst hst;have hj:j<l.length:=(aT hx)
   have hgx:=hg x (Qa2 hx);obtain⟨out',L',k1,k2,k3⟩:=WX hW l j j out L _ x hl hx g1 ae g0 ae g2 hgx;refine⟨_,k1,out',L',rfl,k2,k3,?_,?_⟩
   ·exact nK pl x (fun a=>G j a.x) (fun a=>G (j+1) a.x) (hG hgx ae) (fun y h=>hW.mono _ _ h) (fun y h=>hW.pg _ _ _ ae h hgx) _ g2
   ·have:=wh pl x ((l.take j).foldl (fun p x=>bB pl x p) []);omega)
  (fun st ⟨out,L,hst,g0,g1,g2,g3⟩=>by
   subst hst;refine⟨_,Ex.of (n:=60) (r:=(.exit 0,wV (.d (.s 11 (l.map (Ar.d e)))) out l.length (dB false) L)) ?_,aC,out,L,rfl,g0,g1,g2,g3⟩;unfold wV;generalize l.map (Ar.d e)=es at*;rw[<-hel];simp[PL,f1089])
  (st:=wV (.d (.s 11 (l.map (Ar.d e)))) (.d (.n 11)) 0 .u L) ⟨_,L,rfl,h0,.inl ⟨rfl,rfl⟩,aC,aC⟩
 subst h2;exact⟨out,L',h1,h3,h4,fun a ha=>hG (h5 a ha) ae,h6⟩
end
section
variable {α:Type} {e:α->W} {pl:α->α->α} {z:W} {dS:α->Bool} {G:Nat->α->Prop} {m:Nat} {kk:Int} {ps:List Int}
def bkL:aF:=f1089.body.r.r.r.r.l.r.bl.lp
def Fg (out kept:FV)(i:Nat)(t:FV)(L:List ah):St :=
 (st0 [.u,.u,rL 0,.u,out,.u,.u,.u,kept,dI i,.u,.u,.u,t,.u] L)
theorem WY (oi av n j:Nat)(kept:FV)(L:List ah)(aq ks:List (Ar α))(y:Ar α)(b:Bool)(has:aq.length=n)(hn:n<=1000000)(hks:ks.length<=1000000)(hrow:L[oi]?=some (.row av 11 (aq.map (Ar.d e))))(hy:aq[j]?=some y)(ho:kS e oi kept L ks)(h0:L[0]?=some (aR kk ps))
  (hz:Ca E1 1126 [.d (aU kk ps),.d (e y.x).d] (dB b,none)) :
  ∃ kept' L',Ex E1 bkL (Fg (.ls (.loc oi) av 11 0 n) kept j .u L) (.norm,Fg (.ls (.loc oi) av 11 0 n) kept' (j+1) .u L')/\L'[0]?=some (aR kk ps)/\L'[oi]?=some (.row av 11 (aq.map (Ar.d e)))/\kS e oi kept' L' (ks++if b then [] else [y]):=by
 obtain⟨N,t⟩:=hz.get;have hj:j<aq.length:=(aT hy)
 have hjn:(j:Int)<(n:Int):=ae;have hj0:(0:Int)<=(j:Int):=ae;have aW:ak .i64 ((j:Int)+1)=(j:Int)+1:=wrap_i64 ae;have hk1:((j+1:Nat):Int)=(j:Int)+1:=ae;have e1:(aq.map (Ar.d e))[j]?=some (y.d e):=by simp[hy]
 have l0:0<L.length:=(aT h0)
 have lo:oi<L.length:=(aT hrow)
 have ho0:oi≠0:=fun h=>by subst h;rw[h0]at hrow;cases hrow
 have hel:(aq.map (Ar.d e)).length=n:=by simpa using has
 cases b with
 | true =>
  refine⟨kept,L,?_,h0,hrow,by simpa using ho⟩;obtain⟨s,l1,l2,c,i,u,p,q,ew,ex⟩:=y.iA e;rw[ew]at t;rw[ex]at e1;unfold aR aU wD rV at*;generalize LK .i64 ps=l9,aq.map (Ar.d e)=es at*;have i0:=idx e1;have i1:=idx hrow;have i2:=idx h0;have jJ:j<es.length:=(aT e1)
  refine Ex.of (n:=N+200) ?_;unfold Fg;rw[hk1];simp[bkL,f1089,t,hj0,hjn,jJ,aW,e1,i0,i1,i2,hrow,h0,lo,l0]
 | false =>
  rcases ho with ⟨rfl,rfl⟩|⟨ki,kv,hki,rfl,hk⟩
  ·refine⟨.ls (.loc L.length) 0 11 0 1,L++[.row 0 11 [y.d e]],?_,by rw[Qa0 l0];exact h0,by rw[Qa0 lo];exact hrow,.inr ⟨L.length,0,ae,rfl,aC⟩⟩;obtain⟨s,l1,l2,c,i,u,p,q,ew,ex⟩:=y.iA e;rw[ew]at t;simp only[ex]at e1 ⊢;unfold aR aU wD rV at*;generalize LK .i64 ps=l9,aq.map (Ar.d e)=es at*;have i0:=idx e1;have i1:=idx hrow;have i2:=idx h0;have jJ:j<es.length:=(aT e1)
   refine Ex.of (n:=N+200) ?_;unfold Fg;rw[hk1];simp[bkL,f1089,t,hj0,hjn,jJ,aW,e1,i0,i1,i2,hrow,h0,lo,l0,most]
  ·have lk:ki<L.length:=(aT hk)
   have hk0:ki≠0:=fun h=>by subst h;rw[h0]at hk;cases hk
   have m1:(ks.length+1)*152<=1099511627776:=ae;have m2:ks.length+1<=1099511627776:=ae;have hkl:(ks.map (Ar.d e)).length=ks.length:=aC;have tkk:List.take ks.length (ks.map (Ar.d e))=ks.map (Ar.d e):=Qe1 aC;refine⟨.ls (.loc ki) (kv+1) 11 0 (ks.length+1),L.set ki (.row (kv+1) 11 (ks.map (Ar.d e)++[y.d e])),?_,by rw[Qb2 hk0];exact h0,by rw[Qb2 hki];exact hrow,
    .inr ⟨ki,kv+1,hki,aC,by rw[Qd1 lk];simp⟩⟩
   obtain⟨s,l1,l2,c,i,u,p,q,ew,ex⟩:=y.iA e;rw[ew]at t;simp only[ex]at e1 ⊢;unfold aR aU wD rV at*;generalize aq.map (Ar.d e)=es,ks.map (Ar.d e)=es2,ks.length=k at*;have i0:=idx e1;have i1:=idx hrow;have i2:=idx h0;have i3:=idx hk;have jJ:j<es.length:=(aT e1)
   refine Ex.of (n:=N+200) ?_;unfold Fg;rw[hk1];simp[bkL,f1089,t,hj0,hjn,jJ,aW,e1,i0,i1,i2,i3,hrow,h0,hk,lo,l0,lk,most,m1,m2,hkl,tkk]
theorem abb (oi av:Nat)(L:List ah)(aq:List (Ar α))(hn:aq.length<=1000000)(hrow:L[oi]?=some (.row av 11 (aq.map (Ar.d e))))(h0:L[0]?=some (aR kk ps))
  (hz:∀ a ∈ aq,Ca E1 1126 [.d (aU kk ps),.d (e a.x).d] (dB (dS a.x),none)) :
  ∃ kept L',Ex E1 (.loop bkL) (Fg (.ls (.loc oi) av 11 0 aq.length) (.d (.n 11)) 0 .u L) (.exit 4,Fg (.ls (.loc oi) av 11 0 aq.length) kept aq.length (dB false) L')/\kS e oi kept L' (aq.filter fun a => !dS a.x):=by
 have hff:∀ (l p:List (Ar α)),l.foldl (fun p y=>p++if dS y.x then [] else [y]) p=p++l.filter fun a => !dS a.x:=by
  intro l
  induction l with
  | nil=>intro p;simp
  | cons a l ih=>intro p;rw[Ql1,ih];cases h:dS a.x<;>simp[h]
 obtain⟨r,h1,kept,L',h2,h3⟩:=Ex.fold (E:=E1) (b:=bkL) aq (fun p y=>p++if dS y.x then [] else [y]) []
  (fun j acc st=>∃ kept L,st=Fg (.ls (.loc oi) av 11 0 aq.length) kept j .u L/\L[0]?=some (aR kk ps)/\L[oi]?=some (.row av 11 (aq.map (Ar.d e)))/\kS e oi kept L acc/\acc.length<=j)
  (fun acc r=>∃ kept L,r=(.exit 4,Fg (.ls (.loc oi) av 11 0 aq.length) kept aq.length (dB false) L)/\kS e oi kept L acc)
  (fun j y st hy ⟨kept,L,hst,g0,g1,g2,g3⟩=>by
   subst hst;have hj:j<aq.length:=(aT hy)
   obtain⟨kept',L',k1,k2,k3,k4⟩:=WY oi av aq.length j kept L aq _ y (dS y.x) rfl hn ae g1 hy g2 g0 (hz y (Qa2 hy));refine⟨_,k1,kept',L',rfl,k2,k3,k4,?_⟩;have h9:(if dS y.x then [] else [y]:List (Ar α)).length<=1:=by split<;>simp
   rw[Qb0];omega)
  (fun st ⟨kept,L,hst,g0,g1,g2,g3⟩=>by
   subst hst;refine⟨_,Ex.of (n:=60) (r:=(.exit 4,Fg (.ls (.loc oi) av 11 0 aq.length) kept aq.length (dB false) L)) ?_,aC,kept,L,rfl,g2⟩;unfold Fg;generalize aq.length=n at*;simp[bkL,f1089])
  (st:=Fg (.ls (.loc oi) av 11 0 aq.length) (.d (.n 11)) 0 .u L) ⟨_,L,rfl,h0,hrow,.inl ⟨rfl,rfl⟩,aC⟩
 subst h2;rw[hff,Qv2]at h3;exact⟨kept,L',h1,h3⟩
theorem WZ (hW:TH kk ps e pl z dS G m)(l:List (Ar α))(hl:l.length<=100000)(hm:l.length<m)(hg:∀ a ∈ l,G 1 a.x) :
  Ca E1 1089 [.d (aU kk ps),.d (.s 11 (l.map (Ar.d e)))] (.d (.s 11 (((dF pl l).filter fun a => !dS a.x).map (Ar.d e))),none):=by
 have sA:Ex E1 f1089.body.l (st0 (.d (aU kk ps)::.d (.s 11 (l.map (Ar.d e)))::EZ) [])
   (.norm,(st0 (.u::.d (.s 11 (l.map (Ar.d e)))::rL 0::EY) [aR kk ps])):=by
  apply e6;unfold aU aR;simp[f1089]
 have sB := nx sA f1089.body.r.l (st0 (.u::.d (.s 11 (l.map (Ar.d e)))::rL 0::.u::.d (.n 11)::rT) [aR kk ps]) (by
  apply e6;simp[f1089])
 have sC := nx sB f1089.body.r.r.l.l (wV (.d (.s 11 (l.map (Ar.d e)))) (.d (.n 11)) 0 .u [aR kk ps]) (by
  apply e6;unfold wV;simp[f1089])
 obtain⟨out,L,h1,h2,h3,h4,h5⟩:=aa' hW l ae ae hg [aR kk ps] rfl;have sD:Ex E1 f1089.body.r.r.r.l (wV (.d (.s 11 (l.map (Ar.d e)))) out l.length (dB false) L) (.norm,{Fg out (.d (.n 11)) 0 .u L with vars:=(.u::.u::rL 0::.u::out::.u::.u::.u::.d (.n 11)::uV)}):=by
  apply e6;unfold wV Fg;simp[f1089]
 have sE := nx sD f1089.body.r.r.r.r.l.l (Fg out (.d (.n 11)) 0 .u L) (by
  apply e6;unfold Fg;simp[f1089])
 have key:∃ kept n L' s,Ex E1 (.loop bkL) (Fg out (.d (.n 11)) 0 .u L) (.exit 4,Fg out kept n (dB false) L')/\kS e s kept L' ((dF pl l).filter fun a => !dS a.x):=by
  rcases h3 with ⟨rfl,hnil⟩|⟨oi,av,hoi,rfl,hrow⟩
  ·rw[hnil];refine⟨.d (.n 11),0,L,0,Ex.leave (Ex.of (n:=60) ?_) aC,.inl ⟨rfl,rfl⟩⟩;unfold Fg;simp[bkL,f1089]
  ·obtain⟨kept,L',k1,k2⟩:=abb (dS:=dS) oi av L (dF pl l) ae hrow h2 (fun a ha=>hW.z2 _ _ ae (h4 a ha));exact⟨kept,_,L',oi,k1,k2⟩
 obtain⟨kept,n,L',s,k1,k2⟩:=key;have sF:Ex E1 f1089.body.r.r.r.r.r (Fg out kept n (dB false) L') (.ret,(st0 (.u::.u::.u::kept::GX) (L'))):=by
  apply e6;unfold Fg;simp[f1089]
 refine Ca.body (o:=.ret) rfl (aO 1089 f1089:E1.fn _=_) rfl (sA.seq (sB.seq (Ex.seq (sC.seq (Ex.block h1)) (sD.seq (Ex.seq (sE.seq (Ex.block k1)) sF))))) aC ?_;rcases k2 with ⟨rfl,hnil⟩|⟨ki,kv,_,rfl,hk⟩
 ·rw[hnil];simp[show f1089.res=[.var 3] from rfl,show f1089.ref=false from rfl]
 ·generalize (dF pl l).filter (fun a => !dS a.x)=ks at*;have h9:ah.view kv 11 0 ks.length (.row kv 11 (ks.map (Ar.d e)))=some (ks.map (Ar.d e)):=by
   have:List.take ks.length (ks.map (Ar.d e))=ks.map (Ar.d e):=Qe1 aC;simp[ah.view,this]
  simp[show f1089.res=[.var 3] from rfl,show f1089.ref=false from rfl,hk,h9]
end
set_option maxRecDepth 10000
section
variable {α:Type} {e:α->W} {pl:α->α->α} {z:W} {dS:α->Bool} {G:Nat->α->Prop} {m:Nat} {kk:Int} {ps:List Int}
theorem W9 (kk:Int)(ps:List Int)(hl:ps.length<=1000000):Ca E1 1043 [.d (aU kk ps)] (.d (aU kk ps),none):=by
 have hll:(LK .i64 ps).length<=1000000:=by simpa[LK] using hl
 refine Ca.bQ (n:=100) ?_;rw[aA rfl (aO 1043 f1043:E1.fn _=_) rfl];unfold aU;generalize LK .i64 ps=l9 at*;cases l9 with
 | nil=>simp[f1043,most]
 | cons d ds =>
  have m1:(d::ds).length*8<=1099511627776:=ae;have m2:(d::ds).length<=1099511627776:=ae;simp only[Qf2]at m1 m2;simp[f1043,most,m1,m2,ah.view]
def btL:aF:=f1088.body.r.r.l.r.bl.lp
def RX (es:List D)(out:FV)(j:Nat)(t:FV)(L:List ah):St :=
 (st0 [.u,.d (.s 8 es),rL 0,.u,out,dI j,t] L)
theorem W_ (ws:List W)(j:Nat)(out:FV)(L:List ah)(aq:List D)(x:W)(hn:ws.length<=1000000)(h0:L[0]?=some (aR kk ps))(hx:ws[j]?=some x)(ho:KP 0 out L aq)(has:aq.length<=1000000)
  (hp:Ca E1 53 [.d (aU kk ps),.d x.d] (.d x.d,none)) :
  ∃ out' L',Ex E1 btL (RX (ws.map W.d) out j .u L) (.norm,RX (ws.map W.d) out' (j+1) .u L')/\L'[0]?=some (aR kk ps)/\KP 0 out' L' (aq++[x.d]):=by
 obtain⟨K,t⟩:=hp.get;have hj:j<ws.length:=(aT hx)
 have hj0:(0:Int)<=(j:Int):=ae;have aW:ak .i64 ((j:Int)+1)=(j:Int)+1:=wrap_i64 ae;have hk1:((j+1:Nat):Int)=(j:Int)+1:=ae;have e1:(ws.map W.d)[j]?=some x.d:=by simp[hx]
 have l0:0<L.length:=(aT h0)
 rcases ho with ⟨rfl,rfl⟩|⟨i,av,hi0,rfl,hrow⟩
 ·refine⟨.ls (.loc L.length) 0 8 0 1,L++[.row 0 8 [x.d]],?_,by rw[Qa0 l0];exact h0,.inr ⟨L.length,0,ae,rfl,aC⟩⟩;obtain⟨s,l1,l2,c,b,u,p,q,ex⟩:=x.aH;simp only[ex]at t e1 ⊢;unfold aR aU wD at*;generalize LK .i64 ps=l9,ws.map W.d=es at*;have i0:=idx e1;have j0:=idx h0;have jJ:j<es.length:=(aT e1)
  have hjl:(j:Int)<(es.length:Int):=ae;refine Ex.of (n:=K+300) ?_;unfold RX;rw[hk1];simp[btL,f1088,t,hj0,jJ,hjl,aW,e1,i0,j0,h0,l0,most]
 ·have li:i<L.length:=(aT hrow)
  have m1:(aq.length+1)*128<=1099511627776:=ae;have m2:aq.length+1<=1099511627776:=ae;refine⟨.ls (.loc i) (av+1) 8 0 (aq.length+1),L.set i (.row (av+1) 8 (aq++[x.d])),?_,?_,.inr ⟨i,av+1,hi0,aC,Qd1 li⟩⟩
  ·obtain⟨s,l1,l2,c,b,u,p,q,ex⟩:=x.aH;simp only[ex]at t e1 ⊢;unfold aR aU wD at*;generalize ws.map W.d=es at*;have i0:=idx e1;have j0:=idx h0;have ji:=idx hrow;have jJ:j<es.length:=(aT e1)
   have hjl:(j:Int)<(es.length:Int):=ae;refine Ex.of (n:=K+300) ?_;unfold RX;rw[hk1];simp[btL,f1088,t,hj0,jJ,hjl,aW,e1,i0,j0,ji,h0,l0,hrow,li,most,m1,m2]
  ·rw[Qb2 hi0];exact h0
theorem KQ (ws:List W)(hn:ws.length<=1000000)(hp:∀ x ∈ ws,Ca E1 53 [.d (aU kk ps),.d x.d] (.d x.d,none)) :
  Ca E1 1088 [.d (aU kk ps),.d (.s 8 (ws.map W.d))] (.d (.s 8 (ws.map W.d)),none):=by
 have hff:∀ (l:List W) (p:List D),l.foldl (fun p x=>p++[x.d]) p=p++l.map W.d:=by
  intro l
  induction l with
  | nil=>intro p;simp
  | cons a l ih=>intro p;rw[Ql1,ih];simp
 have hel:(ws.map W.d).length=ws.length:=aC;obtain⟨r,h1,out,L,h2,h3⟩:=Ex.fold (E:=E1) (b:=btL) ws (fun p x=>p++[x.d]) []
  (fun j acc st=>∃ out L,st=RX (ws.map W.d) out j .u L/\L[0]?=some (aR kk ps)/\KP 0 out L acc/\acc.length=j)
  (fun acc r=>∃ out L,r=(.exit 0,RX (ws.map W.d) out ws.length (dB false) L)/\KP 0 out L acc)
  (fun j x st hx ⟨out,L,hst,g0,g1,g2⟩=>by
   subst hst;have hj:j<ws.length:=(aT hx)
   obtain⟨out',L',k1,k2,k3⟩:=W_ (kk:=kk) (ps:=ps) ws j out L _ x hn g0 hx g1 ae (hp x (Qa2 hx));exact⟨_,k1,out',L',rfl,k2,k3,by rw[Qb0,g2];rfl⟩)
  (fun st ⟨out,L,hst,g0,g1,g2⟩=>by
   subst hst;refine⟨_,Ex.of (n:=60) (r:=(.exit 0,RX (ws.map W.d) out ws.length (dB false) L)) ?_,aC,out,L,rfl,g1⟩;unfold RX;generalize ws.map W.d=es at*;rw[<-hel];simp[btL,f1088])
  (st:=RX (ws.map W.d) (.d (.n 8)) 0 .u [aR kk ps]) ⟨_,_,rfl,rfl,.inl ⟨rfl,rfl⟩,rfl⟩
 subst h2;rw[hff,Qv2]at h3;have sA:Ex E1 f1088.body.l (st0 (.d (aU kk ps)::.d (.s 8 (ws.map W.d))::n_) [])
   (.norm,(st0 (.u::.d (.s 8 (ws.map W.d))::rL 0::wW) [aR kk ps])):=by
  apply e6;unfold aU aR;simp[f1088]
 have sB := nx sA f1088.body.r.l (st0 [.u,.d (.s 8 (ws.map W.d)),rL 0,.u,.d (.n 8),.u,.u] [aR kk ps]) (by
  apply e6;simp[f1088])
 have sC := nx sB f1088.body.r.r.l.l (RX (ws.map W.d) (.d (.n 8)) 0 .u [aR kk ps]) (by
  apply e6;unfold RX;simp[f1088])
 have sD:Ex E1 f1088.body.r.r.r (RX (ws.map W.d) out ws.length (dB false) L) (.ret,(st0 [.u,.u,.u,out,.u,.u,.u] L)):=by
  apply e6;unfold RX;simp[f1088]
 refine Ca.body (o:=.ret) rfl (aO 1088 f1088:E1.fn _=_) rfl (sA.seq (sB.seq (Ex.seq (sC.seq (Ex.block h1)) sD))) aC ?_;generalize ws.map W.d=es at*;rcases h3 with ⟨rfl,rfl⟩|⟨i,av,_,rfl,hrow⟩
 ·simp[show f1088.res=[.var 3] from rfl,show f1088.ref=false from rfl]
 ·have h9:ah.view av 8 0 es.length (.row av 8 es)=some es:=by simp[ah.view]
  simp[show f1088.res=[.var 3] from rfl,show f1088.ref=false from rfl,hrow,h9]
theorem abd (hW:TH kk ps e pl z dS G m)(sy st:Int)(bg fin:List α)(aJ:List (Ar α))(hl:ps.length<=1000000)(hn:aJ.length<=100000)(hm:aJ.length<m)(h1:bg.length<=1000000)(h2:fin.length<=1000000)
  (g1:∀ x ∈ bg,G 1 x) (g2:∀ x ∈ fin,G 1 x) (g3:∀ a ∈ aJ,G 1 a.x) :
  Ca E1 1044 [.d (Jf kk ps sy st (bg.map e) (fin.map e) e aJ)] (.d (Jf kk ps sy st (bg.map e) (fin.map e) e (fB pl dS aJ)),none):=by
 obtain⟨N2,t2⟩:=(W9 kk ps hl).any;obtain⟨N3,t3⟩:=(KQ (kk:=kk) (ps:=ps) (bg.map e) (by simpa using h1) (fun x hx=>by
  obtain⟨a,ha,rfl⟩:=Qg1.1 hx;exact hW.tk a (g1 a ha))).any
 obtain⟨N4,t4⟩:=(KQ (kk:=kk) (ps:=ps) (fin.map e) (by simpa using h2) (fun x hx=>by
  obtain⟨a,ha,rfl⟩:=Qg1.1 hx;exact hW.tk a (g2 a ha))).any
 obtain⟨N5,t5⟩:=(WZ hW aJ hn hm g3).any;obtain⟨K,hK⟩:∃ K,K=N2+N3+N4+N5:=⟨_,rfl⟩
 replace t2:=t2 K ae;replace t3:=t3 K ae;replace t4:=t4 K ae;replace t5:=t5 K ae;rw[show(dF pl aJ).filter (fun a => !dS a.x)=fB pl dS aJ from rfl]at t5;refine Ca.bQ (n:=K+200) ?_;rw[aA rfl (aO 1044 f1044:E1.fn _=_) rfl];unfold Jf jh aU at*;generalize (fB pl dS aJ).map (Ar.d e)=es4,aJ.map (Ar.d e)=es3,(bg.map e).map W.d=es1,(fin.map e).map W.d=es2 at*;simp[f1044,t2,t3,t4,t5]
end
section
variable {α:Type} {e:α->W} {kk:Int} {ps:List Int}
end
section
variable {α:Type} {e:α->W} {kk:Int} {ps:List Int}
end
section
variable {α:Type} {e:α->W}
def mq (ws ws':List W):Bool:=decide ((ws.length:Int)=ws'.length)&&(ws.zip ws').all fun p=>p.1.eq p.2
end
end Fi.S
noncomputable section
namespace Fi.S
open Go Fi
set_option maxHeartbeats 8000000
set_option maxRecDepth 10000
variable {α:Type} {e:α->W}
theorem RY {pl:α->α->α}{dS:α->Bool}(l:List (Ar α))(n:Nat)(h:l.length<=n):(fB pl dS l).length<=n:=by
 have hf:∀ (l p:List (Ar α)),(l.foldl (fun p x=>bB pl x p) p).length<=p.length+l.length:=by
  intro l
  induction l with
  | nil=>intro p;simp
  | cons x l ih =>
   intro p;have:=ih (bB pl x p);have:=wh pl x p;simp only[Ql1,Qf2];omega
 have h1:=Xq0 (fun a => !dS a.x) (dF pl l);have h2:=hf l [];unfold fB;unfold dF at*;simp only[Qs0]at h2;omega
end Fi.S
namespace Fi.S
open Go Fi
set_option maxHeartbeats 8000000
set_option maxRecDepth 10000
section
variable {α:Type} {e:α->W} {kk:Int} {ps:List Int}
end
end Fi.S
