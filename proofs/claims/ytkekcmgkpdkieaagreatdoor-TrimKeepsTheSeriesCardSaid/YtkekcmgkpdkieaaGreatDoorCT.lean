import Derived.Test.YtkekcmgkpdkieaaGreatDoorCS
set_option linter.unusedVariables false
set_option linter.unusedSimpArgs false
noncomputable section
namespace Fi.S
open Go Fi
set_option maxHeartbeats 8000000
section
variable {α:Type} {e:α->W}
theorem Xj (n:Nat)(x y z x' y' z':Int):CL E0 (n+300) 1090 [.d (.s 1 [vI x,vI y,vI z]),.d (.s 1 [vI x',vI y',vI z'])] [] =
  some (dI (or3 (fP x x') (fP y y') (fP z z')),none):=by
 have w1:ak .i64 1=1:=wrap_i64 ae;have w2:ak .i64 2=2:=wrap_i64 ae;have w3:ak .i64 3=3:=wrap_i64 ae;rw[aB rfl (aO 1090 f1090:E0.fn _=_) rfl];unfold or3;rcases gP x x' with ⟨h,h'⟩|⟨h,h'⟩|⟨h,h'⟩
 ·rw[h,if_neg ae];simp[f1090,aF,w1,w2,w3,h']
 ·subst h';rw[h,if_pos rfl];rcases gP y y' with ⟨k,k'⟩|⟨k,k'⟩|⟨k,k'⟩
  ·rw[k,if_neg ae];simp[f1090,aF,w1,w2,w3,k']
  ·subst k';rw[k,if_pos rfl];rcases gP z z' with ⟨m,m'⟩|⟨m,m'⟩|⟨m,m'⟩
   ·rw[m];simp[f1090,aF,w1,w2,w3,m']
   ·subst m';rw[m];simp[f1090,aF,w1,w2,w3]
   ·have m2:¬ z<z':=ae;rw[m];simp[f1090,aF,w1,w2,w3,m',m2]
  ·have k2:¬ y<y':=ae;rw[k,if_neg ae];simp[f1090,aF,w1,w2,w3,k',k2]
 ·have h2:¬ x<x':=ae;rw[h,if_neg ae];simp[f1090,aF,w1,w2,w3,h',h2]
theorem Sa (e:α->W)(n:Nat)(a b:Ar α):CL E0 (n+400) 1047 [.d (a.d e),.d (b.d e)] []=some (dI (jL a b),none):=by
 obtain⟨s,l1,l2,c,i,u,p,ps,_,ea⟩:=a.fH e;obtain⟨s',l1',l2',c',i',u',p',ps',_,eb⟩:=b.fH e;rw[ea,eb];have t:=fun m=>Xj m a.f a.l a.t b.f b.l b.t
 unfold jL;generalize or3 (fP a.f b.f) (fP a.l b.l) (fP a.t b.t)=r at*;rw[aB rfl (aO 1047 f1047:E0.fn _=_) rfl];unfold pQ;simp[f1047,t]
end
section
variable {α:Type} {e:α->W}
theorem P7 (e:α->W)(a b:Ar α):Ca E1 1047 [.d (a.d e),.d (b.d e)] (dI (jL a b),none):=Ca.gV (Ca.bQ (Sa e 0 a b))
def P8:aG:=f1089.body.r.r.l.r.bl.lp
def baM:aG:=f1089.body.r.r.l.r.bl.lp.r.l.bl.r.r.r.l.bl.lp
def Gn (es:FV)(xi:Nat)(out:FV)(i k:Nat)(t:FV)(L:List ai):St :=
 (st0 [.u,es,rL 0,.u,out,dI i,rL xi,dI k,.u,.u,.u,t,.u,.u,.u] L)
theorem abk (es:FV)(xi:Nat)(out:FV)(i:Nat)(L:List ai)(aq:List (Ar α))(x:Ar α)(ho:kR e 0 out L aq)(has:aq.length<=1000000)(hx:L[xi]?=some (.box ((x.d e).cells.map .d))) :
  Ex E1 (.loop baM) (Gn es xi out i 0 .u L) (.exit 2,Gn es xi out i ((aq.findIdx? fun y => !decide (iH y x)).getD aq.length) (dB false) L):=by
 have hout:∀ (K:Prop),(out=.d (.n 11)/\aq=[]->K)->(∀ i az,out=.ls (.loc i) az 11 0 aq.length->L[i]?=some (.row az 11 (aq.map (Ar.d e)))->K)->K:=by
  intro K h1 h2;rcases ho with h|⟨i,az,_,h,h'⟩
  ·exact h1 h
  ·exact h2 i az h h'
 have h:=Ex.xZ (E:=E1) (b:=baM) aq (fun y => !decide (iH y x)) (fun k=>Gn es xi out i k .u L) (.exit 2,Gn es xi out i aq.length (dB false) L) (fun k=>(.exit 2,Gn es xi out i k (dB false) L)) aC aC
  (fun j y hy=>by
   have hj:j<aq.length:=(aU hy)
   obtain⟨N,t⟩:=(P7 e y x).get;refine hout _ (fun h=>by rw[h.2]at hy;simp at hy) (fun oi az hoe hrow => ?_);subst hoe;have hjn:(j:Int)<(aq.length:Int):=ae;have hj0:(0:Int)<=(j:Int):=ae;have aS:ak .i64 ((j:Int)+1)=(j:Int)+1:=wrap_i64 ae;have hk1:((j+1:Nat):Int)=(j:Int)+1:=ae;have e1:(aq.map (Ar.d e))[j]?=some (y.d e):=by simp[hy]
   have hlt:=Ik y x;obtain⟨s,l1,l2,c,b,u,p,q,_,ex⟩:=x.fH e;obtain⟨s',l1',l2',c',b',u',p',q',_,ey⟩:=y.fH e;simp only[ex,ey]at t e1 hx;unfold pQ at*;have hel:(aq.map (Ar.d e)).length=aq.length:=aC;generalize aq.map (Ar.d e)=es',aq.length=n,jL y x=od at*;have i0:=idx e1;have i1:=idx hx;have i2:=idx hrow;have fJ:j<es'.length:=(aU e1)
   have lx:xi<L.length:=(aU hx)
   have lo:oi<L.length:=(aU hrow)
   refine Ex.of (n:=N+200) ?_;unfold Gn
   by_cases h1:iH y x
   ·have h2:=hlt.2 h1;have hd:(!decide (iH y x))=false:=by simp[h1]
    rw[hd,if_neg aC,hk1];clear hlt h1 hd;simp[baM,f1089,t,hj0,hjn,fJ,aS,e1,i0,i1,i2,hx,hrow,h2,lx,lo]
   ·have h2:¬ od<0:=fun h=>h1 (hlt.1 h)
    have h3:0<=od:=ae;have hd:(!decide (iH y x))=true:=by simp[h1]
    rw[hd,if_pos rfl];clear hlt h1 hd;simp[baM,f1089,t,hj0,hjn,fJ,e1,i0,i1,i2,hx,hrow,h2,h3,lx,lo])
  (by
   refine hout _ (fun h => ?_) (fun oi az hoe hrow => ?_)
   ·obtain⟨rfl,rfl⟩:=h;refine Ex.of (n:=100) ?_;unfold Gn;simp[baM,f1089]
   ·subst hoe;refine Ex.of (n:=100) ?_;unfold Gn;generalize aq.length=n at*;simp[baM,f1089])
 cases hf:aq.findIdx? (fun y => !decide (iH y x)) with
 | none=>rw[hf]at h;exact h
 | some k=>rw[hf]at h;exact h
end
section
variable {α:Type} {e:α->W}
def baP:aG:=f1089.body.r.r.l.r.bl.lp.r.l.bl.r.r.r.r
def xe (es:FV)(out:FV)(i:Nat)(t:FV)(L:List ai):St :=
 (st0 [.u,es,rL 0,.u,out,dI i,.u,.u,.u,.u,t,.u,.u,.u,.u] L)
theorem aff (es:FV)(xi:Nat)(out:FV)(i k:Nat)(L:List ai)(aq:List (Ar α))(x:Ar α)(ho:kR e 0 out L aq)(has:aq.length<=1000000)(hk:k<=aq.length)(hx:L[xi]?=some (.box ((x.d e).cells.map .d)))(hno:∀ y,aq[k]?=some y->jL y x≠0)(h0:0<L.length) :
  ∃ out' L',Ex E1 baP (Gn es xi out i k (dB false) L) (.norm,xe es out' i .u L')/\(∀ j o,j<L.length->L[j]?=some o->L'[j]?=some o)/\kR e 0 out' L' (aq.take k++x::aq.drop k):=by
 have lx:xi<L.length:=(aU hx)
 have gx:∀ X,(L++X)[xi]?=some (.box ((x.d e).cells.map .d)):=fun X=>by rw[Qa0 lx];exact hx
 have keep:∀ X (j:Nat) (o:ai),j<L.length->L[j]?=some o->(L++X)[j]?=some o:=fun X j o h1 h2=>by rw[Qa0 h1];exact h2
 have sA:∀ c c':ai,(L++[c]).set L.length c'=L++[c']:=fun c c'=>by simp
 obtain⟨s,l1,l2,c,b,u,p,q,_,ex⟩:=x.fH e;rcases ho with ⟨rfl,rfl⟩|⟨oi,az,_,rfl,hrow⟩
 ·obtain rfl:k=0:=by simpa using hk
  refine⟨.ls (.loc L.length) 1 11 0 1,L++[.row 1 11 [x.d e]],?_,keep _,.inr ⟨L.length,1,ae,rfl,aC⟩⟩;rw[ex]at hx gx ⊢;unfold pQ at*;have i1:=idx hx;have i2:=fun X=>idx (gx X)
  refine Ex.of (n:=200) ?_;unfold Gn xe;simp[baP,f1089,kK,Hd,hx,sA,most]
 ·have lo:oi<L.length:=(aU hrow)
  have gr:∀ X,(L++X)[oi]?=some (.row az 11 (aq.map (Ar.d e))):=fun X=>by rw[Qa0 lo];exact hrow
  have hel:(aq.map (Ar.d e)).length=aq.length:=aC;have hk0:(0:Int)<=(k:Int):=ae;have hkn:(k:Int)<=(aq.length:Int):=ae;have tkd:List.take (aq.length-k) (List.drop k (aq.map (Ar.d e)))=List.drop k (aq.map (Ar.d e)):=Qe0 aC;have tkn:List.take aq.length (aq.map (Ar.d e))=aq.map (Ar.d e):=Qe0 aC;have hv:(ai.row az 11 (aq.map (Ar.d e))).view az 11 k (aq.length-k)=some (List.drop k (aq.map (Ar.d e))):=by
   have h1:k+(aq.length-k)<=(aq.map (Ar.d e)).length:=by rw[hel];omega
   simp only[ai.view,h1,and_self,if_true,tkd]
  have hv0:(ai.row az 11 (aq.map (Ar.d e))).view az 11 0 k=some (List.take k (aq.map (Ar.d e))):=by
   have h1:0+k<=(aq.map (Ar.d e)).length:=by rw[hel];omega
   simp only[ai.view,h1,and_self,if_true,Xx0]
  have hfin:(aq.take k++x::aq.drop k).map (Ar.d e)=List.take k (aq.map (Ar.d e))++(x.d e::List.drop k (aq.map (Ar.d e))):=by simp[List.map_take,List.map_drop]
  have hfl:(aq.take k++x::aq.drop k).length=aq.length+1:=by simp;omega
  have ltk:(List.take k (aq.map (Ar.d e))).length=k:=by simp;omega
  have ldk:(List.drop k (aq.map (Ar.d e))).length=aq.length-k:=aC;have nk:aq.length-k<=1000000:=ae
  -- is an arc at k,at another place?
  have hcond:∃ N,∀ m,EX E1 (N+m) baP.l (Gn es xi (.ls (.loc oi) az 11 0 aq.length) i k (dB false) L)=some (.norm,{Gn es xi (.ls (.loc oi) az 11 0 aq.length) i k .u L with vars:=[.u,es,rL 0,.u,.ls (.loc oi) az 11 0 aq.length,dI i,rL xi,dI k,.u,.u,.u,.u,dB false,.u,.u]}):=by
   rcases Qg0 k aq.length with hlt|hge
   ·have hy:aq[k]?=some aq[k]:=Qa1 hlt;obtain⟨N,t⟩:=(P7 e aq[k] x).get;have hne:=hno _ hy;have hne2:(jL aq[k] x==0)=false:=by simpa using hne
    generalize aq[k]=y at*;generalize jL y x=od at*;have e1:(aq.map (Ar.d e))[k]?=some (y.d e):=by simp[hy]
    have hkl:(k:Int)<(aq.length:Int):=ae;obtain⟨s',l1',l2',c',b',u',p',q',_,ey⟩:=y.fH e;simp only[ex,ey]at t e1 hx;unfold pQ at*;generalize aq.map (Ar.d e)=es',aq.length=n at*;have i0:=idx e1;have i1:=idx hx;have i2:=idx hrow;have fJ:k<es'.length:=(aU e1)
    refine⟨N+200,fun m => ?_⟩;rw[show N+200+m=(N+m)+200 by omega];replace t:=fun j=>dL (t 0) (show N+0<=N+m+j by omega)
    unfold Gn;simp[baP,f1089,t,hk0,hkl,fJ,i0,i1,i2,hne2,lx,lo]
   ·refine⟨200,fun m => ?_⟩;have hkl:¬ (k:Int)<(aq.length:Int):=ae;have qE:(aq.length:Int)<=(k:Int):=ae;rw[show 200+m=m+200 by omega];unfold Gn;generalize aq.length=n at*;simp[baP,f1089,hkl]
  obtain⟨N,hcond⟩:=hcond;rcases Qr1 k with rfl|hpos
  ·have m1:(1+aq.length)*152<=1099511627776:=ae;have m2:1+aq.length<=1099511627776:=ae;refine⟨.ls (.loc L.length) 1 11 0 (1+aq.length),L++[.row 1 11 (x.d e::aq.map (Ar.d e))],Ex.seq (Ex.of (hcond 0)) ?_,keep _,.inr ⟨L.length,1,ae,by rw[hfl,Xm2],by rw[hfin];simp⟩⟩;clear hcond hfin hno;simp only[X40,Xx0]at hv;rw[ex]at hx gx ⊢;unfold pQ at*;generalize aq.map (Ar.d e)=es',aq.length=n at*;have i1:=idx hx;have i2:=fun X=>idx (gx X)
   refine Ex.of (n:=200) ?_;unfold Gn xe;simp[kK,Hd,hx,gr,hrow,sA,most,hv,hv0,m1,m2,hel]
  ·have hne:(List.take k (aq.map (Ar.d e))).isEmpty=false:=by
    cases h:List.take k (aq.map (Ar.d e)) with
    | nil=>rw[h]at ltk;simp at ltk;omega
    | cons a r=>rfl
   have hne2:List.take k (aq.map (Ar.d e))≠[]:=by intro h;rw[h]at hne;cases hne
   have m1:k*152<=1099511627776:=ae;have m2:k<=1099511627776:=ae;have m3:(k+1)*152<=1099511627776:=ae;have m4:k+1<=1099511627776:=ae;have m5:(k+1+(aq.length-k))*152<=1099511627776:=ae;have m6:k+1+(aq.length-k)<=1099511627776:=ae;refine⟨.ls (.loc L.length) 2 11 0 (k+1+(aq.length-k)),L++[.row 2 11 (List.take k (aq.map (Ar.d e))++(x.d e::List.drop k (aq.map (Ar.d e))))],Ex.seq (Ex.of (hcond 0)) ?_,keep _,.inr ⟨L.length,2,ae,by rw[hfl];congr 1;omega,by rw[hfin];simp⟩⟩;clear hcond hfin hno;rw[ex]at hx gx ⊢;unfold pQ at*;generalize aq.map (Ar.d e)=es' at*;have tk1:∀ v:D,List.take (k+1) (List.take k es'++[v])=List.take k es'++[v]:=fun v=>Qe0 (by rw[Qb0,ltk];simp)
   generalize hT:List.take k es'=T at*;generalize hD:List.drop k es'=T2 at*;generalize aq.length=n at*;have i1:=idx hx;have i2:=fun X=>idx (gx X)
   have tT:List.take k T=T:=Qe0 ae;refine Ex.of (n:=200) ?_;unfold Gn xe;simp[kK,Hd,gx,gr,hrow,sA,most,hv,hv0,hk0,hkn,hne,m1,m2,m3,m4,m5,m6,ltk,ldk,tk1,tT]
theorem abl (kk:Int)(ps:List Int)(es:FV)(xi:Nat)(out:FV)(i k:Nat)(L:List ai)(aq:List (Ar α))(x y:Ar α)(pl:α->α->α)(ho:kR e 0 out L aq)(has:aq.length<=1000000)(hy:aq[k]?=some y)(hx:L[xi]?=some (.box ((x.d e).cells.map .d)))(heq:jL y x=0)(h0:L[0]?=some (aI kk ps))
  (hp:Ca E1 19 [.d (aV kk ps),.d (e y.x).d,.d (e x.x).d] (.d (e (pl y.x x.x)).d,none)) :
  ∃ L',Ex E1 baP (Gn es xi out i k (dB false) L) (.exit 1,xe es out i .u L')/\L'[0]?=some (aI kk ps)/\kR e 0 out L' (aq.set k (jf pl y x)):=by
 have lx:xi<L.length:=(aU hx)
 obtain⟨N2,t2⟩:=hp.any;obtain⟨N3,t3⟩:=(P7 e y x).any;rcases ho with ⟨_,h⟩|⟨oi,az,ho0,rfl,hrow⟩
 ·rw[h]at hy;simp at hy
 ·obtain⟨K,hK⟩:∃ K,K=N2+N3:=⟨_,rfl⟩
  replace t2:=t2 K ae;replace t3:=t3 K ae;rw[heq]at t3;have lo:oi<L.length:=(aU hrow)
  have hkl:k<aq.length:=(aU hy)
  have qE:(k:Int)<(aq.length:Int):=ae;have hk0:(0:Int)<=(k:Int):=ae;have e1:(aq.map (Ar.d e))[k]?=some (y.d e):=by simp[hy]
  have hfin:(aq.set k (jf pl y x)).map (Ar.d e)=(aq.map (Ar.d e)).set k ((jf pl y x).d e):=by rw[Q52]
  refine⟨L.set oi (.row az 11 ((aq.map (Ar.d e)).set k ((jf pl y x).d e))),?_,by rw[Qb2 ho0];exact h0,.inr ⟨oi,az,ho0,aC,by rw[hfin];exact Qd0 lo⟩⟩;obtain⟨xs,l1,l2,c,b,u,p,ps',ew,ex⟩:=x.fH e;obtain⟨ys,yl1,yl2,yc,yb,yu,yp,yps,ew2,Gi⟩:=y.fH e;obtain⟨zs,Fe,Ff,zc,zb,zu,zp,F_,ez,WT⟩:=(jf pl y x).fH e;have KH:(e (pl y.x x.x)).d=wD zs Fe Ff zc zb zu zp F_:=ez;simp only[ex,KH,ew,Gi,ew2,WT]at t2 t3 e1 hx ⊢;have f1:(jf pl y x).f=y.f:=rfl;have f2:(jf pl y x).l=y.l:=rfl;have f3:(jf pl y x).t=y.t:=rfl;rw[f1,f2,f3];clear ew ex ez KH ew2 Gi WT hp hfin f1 f2 f3 heq;unfold aI aV wD pQ at*;generalize aq.map (Ar.d e)=es2,aq.length=n at*;have i0:=idx e1;have i1:=idx hx;have i2:=idx hrow;have i3:=idx h0;have l0:0<L.length:=ae;have fJ:k<es2.length:=(aU e1)
  refine Ex.of (n:=K+300) ?_;unfold Gn xe;simp[baP,f1089,t2,t3,hk0,qE,fJ,i0,i1,i2,i3,lo,lx,l0]
end
section
variable {α:Type} {e:α->W} {pl:α->α->α} {z:W} {bD:α->Bool} {G:Nat->α->Prop} {m:Nat} {kk:Int} {ps:List Int}
theorem kR.keep {s:Nat}{out:FV}{L:List ai}{aq:List (Ar α)}(h:kR e s out L aq)(X:List ai):kR e s out (L++X) aq:=by
 rcases h with h|⟨i,az,h1,h2,h3⟩
 ·exact .inl h
 ·exact .inr ⟨i,az,h1,h2,by rw[Qa0 (aU h3)];exact h3⟩
theorem Xk (hW:TY kk ps e pl z bD G m)(l:List (Ar α))(i n:Nat)(out:FV)(L:List ai)(aq:List (Ar α))(x:Ar α)(hl:l.length<=1000000)(hx:l[i]?=some x)(ho:kR e 0 out L aq)(has:aq.length<=1000000)(h0:L[0]?=some (aI kk ps))
  (hn:n<m) (hg:∀ a ∈ aq,G n a.x) (hgx:G 1 x.x) :
  ∃ out' L',Ex E1 P8 (xe (.d (.s 11 (l.map (Ar.d e)))) out i .u L) (.norm,xe (.d (.s 11 (l.map (Ar.d e)))) out' (i+1) .u L')/\L'[0]?=some (aI kk ps)/\kR e 0 out' L' (aZ pl x aq):=by
 have hi:i<l.length:=(aU hx)
 have hil:(i:Int)<(l.length:Int):=ae;have hi0:(0:Int)<=(i:Int):=ae;have aS:ak .i64 ((i:Int)+1)=(i:Int)+1:=wrap_i64 ae;have hk1:((i+1:Nat):Int)=(i:Int)+1:=ae;have e1:(l.map (Ar.d e))[i]?=some (x.d e):=by simp[hx]
 have hel:(l.map (Ar.d e)).length=l.length:=aC;have l0:0<L.length:=(aU h0)
 obtain⟨N,t⟩:=(hW.tk x.x hgx).get
 -- the arc is looked at,and its weight taken
 have s1:Ex E1 P8.l (xe (.d (.s 11 (l.map (Ar.d e)))) out i .u L) (.norm,xe (.d (.s 11 (l.map (Ar.d e)))) out i (dB true) L):=by
  apply e6;unfold xe;generalize l.map (Ar.d e)=es at*;rw[<-hel]at hil;simp[P8,f1089,hil]
 have s2 := nx s1 P8.r.l.bl.l {xe (.d (.s 11 (l.map (Ar.d e)))) out i .u L with vars:=(.u::.d (.s 11 (l.map (Ar.d e)))::rL 0::.u::out::dI i::rL L.length::xh),loc:=L++[.box ((x.d e).cells.map .d)]} (by
  have sA:∀ c c':ai,(L++[c]).set L.length c'=L++[c']:=fun c c'=>by simp
  apply e6;obtain⟨s,l1,l2,c,b,u,p,q,_,ex⟩:=x.fH e;rw[ex]at e1 ⊢;unfold xe pQ at*;generalize l.map (Ar.d e)=es at*;have i0:=idx e1;have fJ:i<es.length:=(aU e1)
  simp[P8,f1089,hi0,fJ,e1,i0,sA])
 have s3 := nx s2 P8.r.l.bl.r.l {xe (.d (.s 11 (l.map (Ar.d e)))) out i .u L with vars:=(.u::.d (.s 11 (l.map (Ar.d e)))::rL 0::.u::out::dI i::rL L.length::xh),loc:=L++[.box ((x.d e).cells.map .d)]} (by
  have sA:∀ c c':ai,(L++[c]).set L.length c'=L++[c']:=fun c c'=>by simp
  have g0:∀ X,(L++X)[0]?=some (aI kk ps):=fun X=>by rw[Qa0 l0];exact h0
  refine Ex.of (n:=N+60) ?_;obtain⟨s,l1,l2,c,b,u,p,q,ew,ex⟩:=x.fH e;rw[ew]at t;rw[ex];unfold xe pQ aI aV wD at*;generalize l.map (Ar.d e)=es at*;have i0:=fun X=>idx (g0 X)
  simp[P8,f1089,t,sA,g0,i0])
 have s4 := nx s3 P8.r.l.bl.r.r.l (Gn (.d (.s 11 (l.map (Ar.d e)))) L.length out i 0 .u (L++[.box ((x.d e).cells.map .d)])) (by
  apply e6;unfold xe Gn;simp[P8,f1089])
 have hbx:(L++[ai.box ((x.d e).cells.map .d)])[L.length]?=some (.box ((x.d e).cells.map .d)):=aC;have ho1:=ho.keep [.box ((x.d e).cells.map .d)];have s5:=abk (.d (.s 11 (l.map (Ar.d e)))) L.length out i _ aq x ho1 has hbx;rw[show(aq.findIdx? fun y => !decide (iH y x)).getD aq.length=zK x aq from rfl]at s5;have s6:∀ out' L',Ex E1 P8.r.r (xe (.d (.s 11 (l.map (Ar.d e)))) out' i .u L') (.norm,xe (.d (.s 11 (l.map (Ar.d e)))) out' (i+1) .u L'):=by
  intro out' L';apply e6;unfold xe;rw[hk1];simp[P8,f1089,aS]
 have g1:(L++[ai.box ((x.d e).cells.map .d)])[0]?=some (aI kk ps):=by rw[Qa0 l0];exact h0
 by_cases hy:∃ y,aq[zK x aq]?=some y/\mF y x
 ·obtain⟨y,hy,he⟩:=hy;obtain⟨L',h1,h2,h3⟩:=abl kk ps (.d (.s 11 (l.map (Ar.d e)))) L.length out i _ _ aq x y pl ho1 has hy hbx ((x_ y x).2 he) g1 (hW.p2 n y.x x.x hn (hg _ (Qa2 hy)) hgx);rw[AQ pl x y aq hy he];exact⟨out,L',s1.seq (Ex.seq (Ex.block (s2.seq (s3.seq (s4.seq (Ex.seq (Ex.block s5) h1))))) (s6 _ _)),h2,h3⟩
 ·have hno:∀ y,aq[zK x aq]?=some y->¬ mF y x:=fun y h1 h2=>hy ⟨y,h1,h2⟩
  obtain⟨out',L',h1,h2,h3⟩:=aff (.d (.s 11 (l.map (Ar.d e)))) L.length out i _ _ aq x ho1 has (aa_ x aq) hbx (fun y h1 h2=>hno y h1 ((x_ y x).1 h2)) aC;rw[D7 pl x aq hno];exact⟨out',L',s1.seq (Ex.seq (Ex.fE (s2.seq (s3.seq (s4.seq (Ex.seq (Ex.block s5) h1))))) (s6 _ _)),h2 0 _ aC g1,h3⟩
theorem abm (hW:TY kk ps e pl z bD G m)(l:List (Ar α))(hl:l.length<=1000000)(hm:l.length<=m)(hg:∀ a ∈ l,G 1 a.x)(L:List ai)(h0:L[0]?=some (aI kk ps)) :
  ∃ out L',Ex E1 (.loop P8) (xe (.d (.s 11 (l.map (Ar.d e)))) (.d (.n 11)) 0 .u L) (.exit 0,xe (.d (.s 11 (l.map (Ar.d e)))) out l.length (dB false) L')/\L'[0]?=some (aI kk ps)/\kR e 0 out L' (bX pl l)/\(∀ a ∈ bX pl l,G (l.length+1) a.x)/\(bX pl l).length<=l.length:=by
 have hel:(l.map (Ar.d e)).length=l.length:=aC;have hG:∀ {x:α} {n k:Nat},G n x->n<=k->G k x:=by
  intro x n k h hk
  induction k with
  | zero => obtain rfl : n = 0 :=ae
            exact h
  | succ k ih =>
   rcases Q70 hk with rfl|h2
   ·exact h
   ·exact hW.mono _ _ (ih ae)
 obtain⟨r,h1,out,L',h2,h3,h4,h5,h6⟩:=Ex.fold (E:=E1) (b:=P8) l (fun p x=>aZ pl x p) []
  (fun j acc st=>∃ out L,st=xe (.d (.s 11 (l.map (Ar.d e)))) out j .u L/\L[0]?=some (aI kk ps)/\kR e 0 out L acc/\(∀ a ∈ acc,G j a.x)/\acc.length<=j)
  (fun acc r=>∃ out L,r=(.exit 0,xe (.d (.s 11 (l.map (Ar.d e)))) out l.length (dB false) L)/\L[0]?=some (aI kk ps)/\kR e 0 out L acc/\(∀ a ∈ acc,G l.length a.x)/\acc.length<=l.length)
  (fun j x st hx ⟨out,L,hst,g0,g1,g2,g3⟩=>by
   subst hst;have hj:j<l.length:=(aU hx)
   have hgx:=hg x (Qa2 hx);obtain⟨out',L',k1,k2,k3⟩:=Xk hW l j j out L _ x hl hx g1 ae g0 ae g2 hgx;refine⟨_,k1,out',L',rfl,k2,k3,?_,?_⟩
   ·exact nM pl x (fun a=>G j a.x) (fun a=>G (j+1) a.x) (hG hgx ae) (fun y h=>hW.mono _ _ h) (fun y h=>hW.pg _ _ _ ae h hgx) _ g2
   ·have:=wF pl x ((l.take j).foldl (fun p x=>aZ pl x p) []);omega)
  (fun st ⟨out,L,hst,g0,g1,g2,g3⟩=>by
   subst hst;refine⟨_,Ex.of (n:=60) (r:=(.exit 0,xe (.d (.s 11 (l.map (Ar.d e)))) out l.length (dB false) L)) ?_,aC,out,L,rfl,g0,g1,g2,g3⟩;unfold xe;generalize l.map (Ar.d e)=es at*;rw[<-hel];simp[P8,f1089])
  (st:=xe (.d (.s 11 (l.map (Ar.d e)))) (.d (.n 11)) 0 .u L) ⟨_,L,rfl,h0,.inl ⟨rfl,rfl⟩,aC,aC⟩
 subst h2;exact⟨out,L',h1,h3,h4,fun a ha=>hG (h5 a ha) ae,h6⟩
end
section
variable {α:Type} {e:α->W} {pl:α->α->α} {z:W} {bD:α->Bool} {G:Nat->α->Prop} {m:Nat} {kk:Int} {ps:List Int}
def bkL:aG:=f1089.body.r.r.r.r.l.r.bl.lp
def Fh (out kept:FV)(i:Nat)(t:FV)(L:List ai):St :=
 (st0 [.u,.u,rL 0,.u,out,.u,.u,.u,kept,dI i,.u,.u,.u,t,.u] L)
theorem Xl (oi az n j:Nat)(kept:FV)(L:List ai)(aq ks:List (Ar α))(y:Ar α)(b:Bool)(has:aq.length=n)(hn:n<=1000000)(hks:ks.length<=1000000)(hrow:L[oi]?=some (.row az 11 (aq.map (Ar.d e))))(hy:aq[j]?=some y)(ho:kR e oi kept L ks)(h0:L[0]?=some (aI kk ps))
  (hz:Ca E1 1126 [.d (aV kk ps),.d (e y.x).d] (dB b,none)) :
  ∃ kept' L',Ex E1 bkL (Fh (.ls (.loc oi) az 11 0 n) kept j .u L) (.norm,Fh (.ls (.loc oi) az 11 0 n) kept' (j+1) .u L')/\L'[0]?=some (aI kk ps)/\L'[oi]?=some (.row az 11 (aq.map (Ar.d e)))/\kR e oi kept' L' (ks++if b then [] else [y]):=by
 obtain⟨N,t⟩:=hz.get;have hj:j<aq.length:=(aU hy)
 have hjn:(j:Int)<(n:Int):=ae;have hj0:(0:Int)<=(j:Int):=ae;have aS:ak .i64 ((j:Int)+1)=(j:Int)+1:=wrap_i64 ae;have hk1:((j+1:Nat):Int)=(j:Int)+1:=ae;have e1:(aq.map (Ar.d e))[j]?=some (y.d e):=by simp[hy]
 have l0:0<L.length:=(aU h0)
 have lo:oi<L.length:=(aU hrow)
 have ho0:oi≠0:=fun h=>by subst h;rw[h0]at hrow;cases hrow
 have hel:(aq.map (Ar.d e)).length=n:=by simpa using has
 cases b with
 | true =>
  refine⟨kept,L,?_,h0,hrow,by simpa using ho⟩;obtain⟨s,l1,l2,c,i,u,p,q,ew,ex⟩:=y.fH e;rw[ew]at t;rw[ex]at e1;unfold aI aV wD pQ at*;generalize LK .i64 ps=l9,aq.map (Ar.d e)=es at*;have i0:=idx e1;have i1:=idx hrow;have i2:=idx h0;have fJ:j<es.length:=(aU e1)
  refine Ex.of (n:=N+200) ?_;unfold Fh;rw[hk1];simp[bkL,f1089,t,hj0,hjn,fJ,aS,e1,i0,i1,i2,hrow,h0,lo,l0]
 | false =>
  rcases ho with ⟨rfl,rfl⟩|⟨ki,kv,hki,rfl,hk⟩
  ·refine⟨.ls (.loc L.length) 0 11 0 1,L++[.row 0 11 [y.d e]],?_,by rw[Qa0 l0];exact h0,by rw[Qa0 lo];exact hrow,.inr ⟨L.length,0,ae,rfl,aC⟩⟩;obtain⟨s,l1,l2,c,i,u,p,q,ew,ex⟩:=y.fH e;rw[ew]at t;simp only[ex]at e1 ⊢;unfold aI aV wD pQ at*;generalize LK .i64 ps=l9,aq.map (Ar.d e)=es at*;have i0:=idx e1;have i1:=idx hrow;have i2:=idx h0;have fJ:j<es.length:=(aU e1)
   refine Ex.of (n:=N+200) ?_;unfold Fh;rw[hk1];simp[bkL,f1089,t,hj0,hjn,fJ,aS,e1,i0,i1,i2,hrow,h0,lo,l0,most]
  ·have lk:ki<L.length:=(aU hk)
   have hk0:ki≠0:=fun h=>by subst h;rw[h0]at hk;cases hk
   have m1:(ks.length+1)*152<=1099511627776:=ae;have m2:ks.length+1<=1099511627776:=ae;have hkl:(ks.map (Ar.d e)).length=ks.length:=aC;have tkk:List.take ks.length (ks.map (Ar.d e))=ks.map (Ar.d e):=Qe0 aC;refine⟨.ls (.loc ki) (kv+1) 11 0 (ks.length+1),L.set ki (.row (kv+1) 11 (ks.map (Ar.d e)++[y.d e])),?_,by rw[Qb2 hk0];exact h0,by rw[Qb2 hki];exact hrow,
    .inr ⟨ki,kv+1,hki,aC,by rw[Qd0 lk];simp⟩⟩
   obtain⟨s,l1,l2,c,i,u,p,q,ew,ex⟩:=y.fH e;rw[ew]at t;simp only[ex]at e1 ⊢;unfold aI aV wD pQ at*;generalize aq.map (Ar.d e)=es,ks.map (Ar.d e)=es2,ks.length=k at*;have i0:=idx e1;have i1:=idx hrow;have i2:=idx h0;have i3:=idx hk;have fJ:j<es.length:=(aU e1)
   refine Ex.of (n:=N+200) ?_;unfold Fh;rw[hk1];simp[bkL,f1089,t,hj0,hjn,fJ,aS,e1,i0,i1,i2,i3,hrow,h0,hk,lo,l0,lk,most,m1,m2,hkl,tkk]
theorem abo (oi az:Nat)(L:List ai)(aq:List (Ar α))(hn:aq.length<=1000000)(hrow:L[oi]?=some (.row az 11 (aq.map (Ar.d e))))(h0:L[0]?=some (aI kk ps))
  (hz:∀ a ∈ aq,Ca E1 1126 [.d (aV kk ps),.d (e a.x).d] (dB (bD a.x),none)) :
  ∃ kept L',Ex E1 (.loop bkL) (Fh (.ls (.loc oi) az 11 0 aq.length) (.d (.n 11)) 0 .u L) (.exit 4,Fh (.ls (.loc oi) az 11 0 aq.length) kept aq.length (dB false) L')/\kR e oi kept L' (aq.filter fun a => !bD a.x):=by
 have hff:∀ (l p:List (Ar α)),l.foldl (fun p y=>p++if bD y.x then [] else [y]) p=p++l.filter fun a => !bD a.x:=by
  intro l
  induction l with
  | nil=>intro p;simp
  | cons a l ih=>intro p;rw[Qk2,ih];cases h:bD a.x<;>simp[h]
 obtain⟨r,h1,kept,L',h2,h3⟩:=Ex.fold (E:=E1) (b:=bkL) aq (fun p y=>p++if bD y.x then [] else [y]) []
  (fun j acc st=>∃ kept L,st=Fh (.ls (.loc oi) az 11 0 aq.length) kept j .u L/\L[0]?=some (aI kk ps)/\L[oi]?=some (.row az 11 (aq.map (Ar.d e)))/\kR e oi kept L acc/\acc.length<=j)
  (fun acc r=>∃ kept L,r=(.exit 4,Fh (.ls (.loc oi) az 11 0 aq.length) kept aq.length (dB false) L)/\kR e oi kept L acc)
  (fun j y st hy ⟨kept,L,hst,g0,g1,g2,g3⟩=>by
   subst hst;have hj:j<aq.length:=(aU hy)
   obtain⟨kept',L',k1,k2,k3,k4⟩:=Xl oi az aq.length j kept L aq _ y (bD y.x) rfl hn ae g1 hy g2 g0 (hz y (Qa2 hy));refine⟨_,k1,kept',L',rfl,k2,k3,k4,?_⟩;have h9:(if bD y.x then [] else [y]:List (Ar α)).length<=1:=by split<;>simp
   rw[Qb0];omega)
  (fun st ⟨kept,L,hst,g0,g1,g2,g3⟩=>by
   subst hst;refine⟨_,Ex.of (n:=60) (r:=(.exit 4,Fh (.ls (.loc oi) az 11 0 aq.length) kept aq.length (dB false) L)) ?_,aC,kept,L,rfl,g2⟩;unfold Fh;generalize aq.length=n at*;simp[bkL,f1089])
  (st:=Fh (.ls (.loc oi) az 11 0 aq.length) (.d (.n 11)) 0 .u L) ⟨_,L,rfl,h0,hrow,.inl ⟨rfl,rfl⟩,aC⟩
 subst h2;rw[hff,Qs2]at h3;exact⟨kept,L',h1,h3⟩
theorem KU (hW:TY kk ps e pl z bD G m)(l:List (Ar α))(hl:l.length<=100000)(hm:l.length<m)(hg:∀ a ∈ l,G 1 a.x) :
  Ca E1 1089 [.d (aV kk ps),.d (.s 11 (l.map (Ar.d e)))] (.d (.s 11 (((bX pl l).filter fun a => !bD a.x).map (Ar.d e))),none):=by
 have sA:Ex E1 f1089.body.l (st0 (.d (aV kk ps)::.d (.s 11 (l.map (Ar.d e)))::Jm) [])
   (.norm,(st0 (.u::.d (.s 11 (l.map (Ar.d e)))::rL 0::BZ) [aI kk ps])):=by
  apply e6;unfold aV aI;simp[f1089]
 have sB := nx sA f1089.body.r.l (st0 (.u::.d (.s 11 (l.map (Ar.d e)))::rL 0::.u::.d (.n 11)::qj) [aI kk ps]) (by
  apply e6;simp[f1089])
 have sC := nx sB f1089.body.r.r.l.l (xe (.d (.s 11 (l.map (Ar.d e)))) (.d (.n 11)) 0 .u [aI kk ps]) (by
  apply e6;unfold xe;simp[f1089])
 obtain⟨out,L,h1,h2,h3,h4,h5⟩:=abm hW l ae ae hg [aI kk ps] rfl;have sD:Ex E1 f1089.body.r.r.r.l (xe (.d (.s 11 (l.map (Ar.d e)))) out l.length (dB false) L) (.norm,{Fh out (.d (.n 11)) 0 .u L with vars:=(.u::.u::rL 0::.u::out::.u::.u::.u::.d (.n 11)::rM)}):=by
  apply e6;unfold xe Fh;simp[f1089]
 have sE := nx sD f1089.body.r.r.r.r.l.l (Fh out (.d (.n 11)) 0 .u L) (by
  apply e6;unfold Fh;simp[f1089])
 have key:∃ kept n L' s,Ex E1 (.loop bkL) (Fh out (.d (.n 11)) 0 .u L) (.exit 4,Fh out kept n (dB false) L')/\kR e s kept L' ((bX pl l).filter fun a => !bD a.x):=by
  rcases h3 with ⟨rfl,hnil⟩|⟨oi,az,hoi,rfl,hrow⟩
  ·rw[hnil];refine⟨.d (.n 11),0,L,0,Ex.leave (Ex.of (n:=60) ?_) aC,.inl ⟨rfl,rfl⟩⟩;unfold Fh;simp[bkL,f1089]
  ·obtain⟨kept,L',k1,k2⟩:=abo (bD:=bD) oi az L (bX pl l) ae hrow h2 (fun a ha=>hW.z2 _ _ ae (h4 a ha));exact⟨kept,_,L',oi,k1,k2⟩
 obtain⟨kept,n,L',s,k1,k2⟩:=key;have sF:Ex E1 f1089.body.r.r.r.r.r (Fh out kept n (dB false) L') (.ret,(st0 (.u::.u::.u::kept::Mw) (L'))):=by
  apply e6;unfold Fh;simp[f1089]
 refine Ca.body (o:=.ret) rfl (aO 1089 f1089:E1.fn _=_) rfl (sA.seq (sB.seq (Ex.seq (sC.seq (Ex.block h1)) (sD.seq (Ex.seq (sE.seq (Ex.block k1)) sF))))) aC ?_;rcases k2 with ⟨rfl,hnil⟩|⟨ki,kv,_,rfl,hk⟩
 ·rw[hnil];simp[show f1089.res=[.var 3] from rfl,show f1089.ref=false from rfl]
 ·generalize (bX pl l).filter (fun a => !bD a.x)=ks at*;have h9:ai.view kv 11 0 ks.length (.row kv 11 (ks.map (Ar.d e)))=some (ks.map (Ar.d e)):=by
   have:List.take ks.length (ks.map (Ar.d e))=ks.map (Ar.d e):=Qe0 aC;simp[ai.view,this]
  simp[show f1089.res=[.var 3] from rfl,show f1089.ref=false from rfl,hk,h9]
end
set_option maxRecDepth 10000
section
variable {α:Type} {e:α->W} {pl:α->α->α} {z:W} {bD:α->Bool} {G:Nat->α->Prop} {m:Nat} {kk:Int} {ps:List Int}
theorem Xm (kk:Int)(ps:List Int)(hl:ps.length<=1000000):Ca E1 1043 [.d (aV kk ps)] (.d (aV kk ps),none):=by
 have hll:(LK .i64 ps).length<=1000000:=by simpa[LK] using hl
 refine Ca.bQ (n:=100) ?_;rw[aB rfl (aO 1043 f1043:E1.fn _=_) rfl];unfold aV;generalize LK .i64 ps=l9 at*;cases l9 with
 | nil=>simp[f1043,most]
 | cons d ds =>
  have m1:(d::ds).length*8<=1099511627776:=ae;have m2:(d::ds).length<=1099511627776:=ae;simp only[Qf1]at m1 m2;simp[f1043,most,m1,m2,ai.view]
def btL:aG:=f1088.body.r.r.l.r.bl.lp
def Sb (es:List D)(out:FV)(j:Nat)(t:FV)(L:List ai):St :=
 (st0 [.u,.d (.s 8 es),rL 0,.u,out,dI j,t] L)
theorem Xn (ws:List W)(j:Nat)(out:FV)(L:List ai)(aq:List D)(x:W)(hn:ws.length<=1000000)(h0:L[0]?=some (aI kk ps))(hx:ws[j]?=some x)(ho:KT 0 out L aq)(has:aq.length<=1000000)
  (hp:Ca E1 53 [.d (aV kk ps),.d x.d] (.d x.d,none)) :
  ∃ out' L',Ex E1 btL (Sb (ws.map W.d) out j .u L) (.norm,Sb (ws.map W.d) out' (j+1) .u L')/\L'[0]?=some (aI kk ps)/\KT 0 out' L' (aq++[x.d]):=by
 obtain⟨K,t⟩:=hp.get;have hj:j<ws.length:=(aU hx)
 have hj0:(0:Int)<=(j:Int):=ae;have aS:ak .i64 ((j:Int)+1)=(j:Int)+1:=wrap_i64 ae;have hk1:((j+1:Nat):Int)=(j:Int)+1:=ae;have e1:(ws.map W.d)[j]?=some x.d:=by simp[hx]
 have l0:0<L.length:=(aU h0)
 rcases ho with ⟨rfl,rfl⟩|⟨i,az,hi0,rfl,hrow⟩
 ·refine⟨.ls (.loc L.length) 0 8 0 1,L++[.row 0 8 [x.d]],?_,by rw[Qa0 l0];exact h0,.inr ⟨L.length,0,ae,rfl,aC⟩⟩;obtain⟨s,l1,l2,c,b,u,p,q,ex⟩:=x.aP;simp only[ex]at t e1 ⊢;unfold aI aV wD at*;generalize LK .i64 ps=l9,ws.map W.d=es at*;have i0:=idx e1;have j0:=idx h0;have fJ:j<es.length:=(aU e1)
  have hjl:(j:Int)<(es.length:Int):=ae;refine Ex.of (n:=K+300) ?_;unfold Sb;rw[hk1];simp[btL,f1088,t,hj0,fJ,hjl,aS,e1,i0,j0,h0,l0,most]
 ·have li:i<L.length:=(aU hrow)
  have m1:(aq.length+1)*128<=1099511627776:=ae;have m2:aq.length+1<=1099511627776:=ae;refine⟨.ls (.loc i) (az+1) 8 0 (aq.length+1),L.set i (.row (az+1) 8 (aq++[x.d])),?_,?_,.inr ⟨i,az+1,hi0,aC,Qd0 li⟩⟩
  ·obtain⟨s,l1,l2,c,b,u,p,q,ex⟩:=x.aP;simp only[ex]at t e1 ⊢;unfold aI aV wD at*;generalize ws.map W.d=es at*;have i0:=idx e1;have j0:=idx h0;have ji:=idx hrow;have fJ:j<es.length:=(aU e1)
   have hjl:(j:Int)<(es.length:Int):=ae;refine Ex.of (n:=K+300) ?_;unfold Sb;rw[hk1];simp[btL,f1088,t,hj0,fJ,hjl,aS,e1,i0,j0,ji,h0,l0,hrow,li,most,m1,m2]
  ·rw[Qb2 hi0];exact h0
theorem KV (ws:List W)(hn:ws.length<=1000000)(hp:∀ x ∈ ws,Ca E1 53 [.d (aV kk ps),.d x.d] (.d x.d,none)) :
  Ca E1 1088 [.d (aV kk ps),.d (.s 8 (ws.map W.d))] (.d (.s 8 (ws.map W.d)),none):=by
 have hff:∀ (l:List W) (p:List D),l.foldl (fun p x=>p++[x.d]) p=p++l.map W.d:=by
  intro l
  induction l with
  | nil=>intro p;simp
  | cons a l ih=>intro p;rw[Qk2,ih];simp
 have hel:(ws.map W.d).length=ws.length:=aC;obtain⟨r,h1,out,L,h2,h3⟩:=Ex.fold (E:=E1) (b:=btL) ws (fun p x=>p++[x.d]) []
  (fun j acc st=>∃ out L,st=Sb (ws.map W.d) out j .u L/\L[0]?=some (aI kk ps)/\KT 0 out L acc/\acc.length=j)
  (fun acc r=>∃ out L,r=(.exit 0,Sb (ws.map W.d) out ws.length (dB false) L)/\KT 0 out L acc)
  (fun j x st hx ⟨out,L,hst,g0,g1,g2⟩=>by
   subst hst;have hj:j<ws.length:=(aU hx)
   obtain⟨out',L',k1,k2,k3⟩:=Xn (kk:=kk) (ps:=ps) ws j out L _ x hn g0 hx g1 ae (hp x (Qa2 hx));exact⟨_,k1,out',L',rfl,k2,k3,by rw[Qb0,g2];rfl⟩)
  (fun st ⟨out,L,hst,g0,g1,g2⟩=>by
   subst hst;refine⟨_,Ex.of (n:=60) (r:=(.exit 0,Sb (ws.map W.d) out ws.length (dB false) L)) ?_,aC,out,L,rfl,g1⟩;unfold Sb;generalize ws.map W.d=es at*;rw[<-hel];simp[btL,f1088])
  (st:=Sb (ws.map W.d) (.d (.n 8)) 0 .u [aI kk ps]) ⟨_,_,rfl,rfl,.inl ⟨rfl,rfl⟩,rfl⟩
 subst h2;rw[hff,Qs2]at h3;have sA:Ex E1 f1088.body.l (st0 (.d (aV kk ps)::.d (.s 8 (ws.map W.d))::jP) [])
   (.norm,(st0 (.u::.d (.s 8 (ws.map W.d))::rL 0::rJ) [aI kk ps])):=by
  apply e6;unfold aV aI;simp[f1088]
 have sB := nx sA f1088.body.r.l (st0 [.u,.d (.s 8 (ws.map W.d)),rL 0,.u,.d (.n 8),.u,.u] [aI kk ps]) (by
  apply e6;simp[f1088])
 have sC := nx sB f1088.body.r.r.l.l (Sb (ws.map W.d) (.d (.n 8)) 0 .u [aI kk ps]) (by
  apply e6;unfold Sb;simp[f1088])
 have sD:Ex E1 f1088.body.r.r.r (Sb (ws.map W.d) out ws.length (dB false) L) (.ret,(st0 [.u,.u,.u,out,.u,.u,.u] L)):=by
  apply e6;unfold Sb;simp[f1088]
 refine Ca.body (o:=.ret) rfl (aO 1088 f1088:E1.fn _=_) rfl (sA.seq (sB.seq (Ex.seq (sC.seq (Ex.block h1)) sD))) aC ?_;generalize ws.map W.d=es at*;rcases h3 with ⟨rfl,rfl⟩|⟨i,az,_,rfl,hrow⟩
 ·simp[show f1088.res=[.var 3] from rfl,show f1088.ref=false from rfl]
 ·have h9:ai.view az 8 0 es.length (.row az 8 es)=some es:=by simp[ai.view]
  simp[show f1088.res=[.var 3] from rfl,show f1088.ref=false from rfl,hrow,h9]
theorem abp (hW:TY kk ps e pl z bD G m)(sy st:Int)(aK fin:List α)(av:List (Ar α))(hl:ps.length<=1000000)(hn:av.length<=100000)(hm:av.length<m)(h1:aK.length<=1000000)(h2:fin.length<=1000000)
  (g1:∀ x ∈ aK,G 1 x) (g2:∀ x ∈ fin,G 1 x) (g3:∀ a ∈ av,G 1 a.x) :
  Ca E1 1044 [.d (tV kk ps sy st (aK.map e) (fin.map e) e av)] (.d (tV kk ps sy st (aK.map e) (fin.map e) e (dG pl bD av)),none):=by
 obtain⟨N2,t2⟩:=(Xm kk ps hl).any;obtain⟨N3,t3⟩:=(KV (kk:=kk) (ps:=ps) (aK.map e) (by simpa using h1) (fun x hx=>by
  obtain⟨a,ha,rfl⟩:=Qg1.1 hx;exact hW.tk a (g1 a ha))).any
 obtain⟨N4,t4⟩:=(KV (kk:=kk) (ps:=ps) (fin.map e) (by simpa using h2) (fun x hx=>by
  obtain⟨a,ha,rfl⟩:=Qg1.1 hx;exact hW.tk a (g2 a ha))).any
 obtain⟨N5,t5⟩:=(KU hW av hn hm g3).any;obtain⟨K,hK⟩:∃ K,K=N2+N3+N4+N5:=⟨_,rfl⟩
 replace t2:=t2 K ae;replace t3:=t3 K ae;replace t4:=t4 K ae;replace t5:=t5 K ae;rw[show(bX pl av).filter (fun a => !bD a.x)=dG pl bD av from rfl]at t5;refine Ca.bQ (n:=K+200) ?_;rw[aB rfl (aO 1044 f1044:E1.fn _=_) rfl];unfold tV iD aV at*;generalize (dG pl bD av).map (Ar.d e)=es4,av.map (Ar.d e)=es3,(aK.map e).map W.d=es1,(fin.map e).map W.d=es2 at*;simp[f1044,t2,t3,t4,t5]
end
section
variable {α:Type} {e:α->W} {kk:Int} {ps:List Int}
end
section
variable {α:Type} {e:α->W} {kk:Int} {ps:List Int}
theorem Xi (n:Nat)(x lo hi:Int):CL E1 (n+100) 1041 [dI x,dI lo,dI hi] []=some (dB (Bl x lo hi),none):=by
 rw[aB rfl (aO 1041 f1041:E1.fn _=_) rfl];unfold Bl
 by_cases h1:lo<=x
 ·simp[f1041,h1]
 ·have h2:x<lo:=ae;simp[f1041,h1,h2]
theorem yh (n:Nat)(x:Int):CL E1 (n+100) 1040 [dI x] []=some (dB (Bl x 1 32),none):=by
 rw[aB rfl (aO 1040 f1040:E1.fn _=_) rfl];unfold Bl
 by_cases h1:1<=x
 ·simp[f1040,h1]
 ·have h2:x<1:=ae;simp[f1040,h1,h2]
end
section
variable {α:Type} {e:α->W}
def fK (ws ws':List W):Bool:=decide ((ws.length:Int)=ws'.length)&&(ws.zip ws').all fun p=>p.1.eq p.2
def P9 (e:α->W)(aq aq':List (Ar α)):Bool:=decide ((aq.length:Int)=aq'.length)&&(aq.zip aq').all fun p=>decide (jL p.1 p.2=0)&&(e p.1.x).eq (e p.2.x)
def slL:aG:=f1046.body.r.r.l.r.bl.lp
def slS (es es':List D)(j:Nat)(t:FV):St:=(st0 [.d (.s 8 es),.d (.s 8 es'),.u,dI j,.u,t,.u] [])
theorem AV (ws ws':List W)(hn:ws.length<=1000000)(o1:∀ w ∈ ws,w.OK)(o2:∀ w ∈ ws',w.OK) :
  Ca E1 1046 [.d (.s 8 (ws.map W.d)),.d (.s 8 (ws'.map W.d))] (dB (fK ws ws'),none):=by
 have n1:(ws.map W.d).length=ws.length:=aC;have n2:(ws'.map W.d).length=ws'.length:=aC;unfold fK
 by_cases hlen:ws.length=ws'.length
 ·have hd:decide ((ws.length:Int)=ws'.length)=true:=by simp[hlen]
  rw[hd,Qp1];have hzl:(ws.zip ws').length=ws.length:=by rw[Xu1];omega
  have hloop:=Ex.Ii (E:=E1) (b:=slL) (ws.zip ws') (fun p=>p.1.eq p.2) (fun j=>slS (ws.map W.d) (ws'.map W.d) j .u) (.exit 0,slS (ws.map W.d) (ws'.map W.d) ws.length (dB false))
   (.ret,(st0 (.u::.u::dB false::rJ) [])) aC aC
   (fun j p hp=>by
    obtain⟨x,y⟩:=p;have hj:j<(ws.zip ws').length:=(aU hp)
    obtain⟨hx,hy⟩:=Q00.1 hp;obtain⟨N,t⟩:=(Ca.gV (pE x (o1 x (Qa2 hx)) y (o2 y (Qa2 hy)))).get;have hj0:(0:Int)<=(j:Int):=ae;have aS:ak .i64 ((j:Int)+1)=(j:Int)+1:=wrap_i64 ae;have hk1:((j+1:Nat):Int)=(j:Int)+1:=ae;have e1:(ws.map W.d)[j]?=some x.d:=by simp[hx]
    have e2:(ws'.map W.d)[j]?=some y.d:=by simp[hy]
    obtain⟨s,l1,l2,c,b,u,q,ps,ex⟩:=x.aP;obtain⟨s',l1',l2',c',b',u',q',ps',ey⟩:=y.aP;simp only[ex,ey]at t e1 e2;unfold wD at*;generalize ws.map W.d=es,ws'.map W.d=es' at*;have i0:=idx e1;have i1:=idx e2;have fJ:j<es.length:=(aU e1)
    have Sc:j<es'.length:=(aU e2)
    have hjl:(j:Int)<(es.length:Int):=ae;generalize x.eq y=r at*;refine Ex.of (n:=N+100) ?_;unfold slS;cases r
    ·rw[if_neg aC];simp[slL,f1046,t,hj0,fJ,Sc,hjl,e1,e2,i0,i1]
    ·rw[if_pos rfl,hk1];simp[slL,f1046,t,hj0,fJ,Sc,hjl,e1,e2,i0,i1,aS])
   (by
    rw[hzl];apply e6;unfold slS;rw[<-n1];generalize ws.map W.d=es at*;simp[slL,f1046])
  have hne:((ws.length:Int) != (ws'.length:Int))=false:=by simp[hlen]
  have sA:Ex E1 f1046.body.l (st0 (.d (.s 8 (ws.map W.d))::.d (.s 8 (ws'.map W.d))::jP) []) (.norm,(st0 (.d (.s 8 (ws.map W.d))::.d (.s 8 (ws'.map W.d))::jP) [])):=by
   apply e6;simp[f1046]
  have sB := nx sA f1046.body.r.l (st0 [.d (.s 8 (ws.map W.d)),.d (.s 8 (ws'.map W.d)),.u,.u,dB false,.u,.u] []) (by
   apply e6;rw[<-n1,<-n2]at hne;clear hloop;generalize ws.map W.d=es,ws'.map W.d=es' at*;simp[f1046,hne])
  have sC := nx sB f1046.body.r.r.l.l (slS (ws.map W.d) (ws'.map W.d) 0 .u) (by
   apply e6;unfold slS;simp[f1046])
  cases hr:(ws.zip ws').all fun p=>p.1.eq p.2 with
  | true =>
   rw[hr,if_pos rfl]at hloop;have sD:Ex E1 f1046.body.r.r.r (slS (ws.map W.d) (ws'.map W.d) ws.length (dB false)) (.ret,(st0 (.u::.u::dB true::rJ) [])):=by
    apply e6;unfold slS;simp[f1046]
   refine Ca.body (o:=.ret) rfl (k1046:E1.fn _=_) rfl (sA.seq (sB.seq (Ex.seq (sC.seq (Ex.block hloop)) sD))) aC ?_;simp[show f1046.res=[.var 2] from rfl,show f1046.ref=false from rfl]
  | false =>
   rw[hr,if_neg aC]at hloop;refine Ca.body (o:=.ret) rfl (k1046:E1.fn _=_) rfl (sA.seq (sB.seq (Ex.dE (sC.seq (Ex.b_ hloop))))) aC ?_;simp[show f1046.res=[.var 2] from rfl,show f1046.ref=false from rfl]
 ·have hd:decide ((ws.length:Int)=ws'.length)=false:=by simp;omega
  have hne:((ws.length:Int) != (ws'.length:Int))=true:=by simp;omega
  rw[hd,Qz0];refine Ca.bQ (n:=100) ?_;rw[aB rfl (k1046:E1.fn _=_) rfl];rw[<-n1,<-n2]at hne;generalize ws.map W.d=es,ws'.map W.d=es' at*;simp[f1046,hne]
def BP (kk:Int)(ps:List Int)(sy st:Int)(aK fin:List W)(av:List (Ar α))(Mr:Int)(ps':List Int)(Jj st':Int)(qQ fin':List W)(h_:List (Ar α))(e:α->W):Bool :=
 iW kk ps Mr ps'&&(decide (sy=Jj)&&(decide (st=st')&&(fK aK qQ&&(fK fin fin'&&P9 e av h_))))
def saL:aG:=f1014.body.r.r.l.r.bl.lp
def saS (b1 b2:ai)(j:Nat)(t:FV):St:=(st0 [.u,.u,rL 0,rL 1,.u,dI j,.u,t,.u] [b1,b2])
theorem KW (kk:Int)(ps:List Int)(sy st:Int)(aK fin:List W)(av:List (Ar α))(Mr:Int)(ps':List Int)(Jj st':Int)(qQ fin':List W)(h_:List (Ar α))(hl:ps.length<=1000000)(hl':ps'.length<=1000000)
  (h1:aK.length<=1000000) (h2:fin.length<=1000000) (h3:av.length<=1000000) (o1:∀ w ∈ aK,w.OK) (o2:∀ w ∈ fin,w.OK) (o3:∀ a ∈ av,(e a.x).OK) (Zj:∀ w ∈ qQ,w.OK) (Zk:∀ w ∈ fin',w.OK) (o3':∀ a ∈ h_,(e a.x).OK) :
  Ca E1 1014 [.d (tV kk ps sy st aK fin e av),.d (tV Mr ps' Jj st' qQ fin' e h_)] (dB (BP kk ps sy st aK fin av Mr ps' Jj st' qQ fin' h_ e),none):=by
 obtain⟨K,hK,t1,t2,t3⟩:=((Ca.gV (Rh kk Mr ps ps' ae ae)).j ((AV aK qQ h1 o1 Zj).j ((AV fin fin' h2 o2 Zk).any))).at 0;have n3:(av.map (Ar.d e)).length=av.length:=aC;have n3':(h_.map (Ar.d e)).length=h_.length:=aC;have sA:Ex E1 f1014.body.l (st0 (.d (tV kk ps sy st aK fin e av)::.d (tV Mr ps' Jj st' qQ fin' e h_)::qi) [])
   (.norm,(st0 (.u::.u::rL 0::rL 1::jP) [aX kk ps sy st (aK.map W.d) (fin.map W.d) (av.map (Ar.d e)),aX Mr ps' Jj st' (qQ.map W.d) (fin'.map W.d) (h_.map (Ar.d e))])):=by
  apply e6;unfold tV iD aX;simp[f1014]
 -- the heads
 have sB:Ex E1 f1014.body.r.l (st0 (.u::.u::rL 0::rL 1::jP) [aX kk ps sy st (aK.map W.d) (fin.map W.d) (av.map (Ar.d e)),aX Mr ps' Jj st' (qQ.map W.d) (fin'.map W.d) (h_.map (Ar.d e))])
   (if iW kk ps Mr ps'&&(decide (sy=Jj)&&(decide (st=st')&&(fK aK qQ&&(fK fin fin'&&decide ((av.length:Int)=h_.length)))))
    then(.norm,(st0 [.u,.u,rL 0,rL 1,.u,.u,dB false,.u,.u] [aX kk ps sy st (aK.map W.d) (fin.map W.d) (av.map (Ar.d e)),aX Mr ps' Jj st' (qQ.map W.d) (fin'.map W.d) (h_.map (Ar.d e))]))
    else(.ret,(st0 (.u::.u::.u::.u::dB false::rJ) [aX kk ps sy st (aK.map W.d) (fin.map W.d) (av.map (Ar.d e)),aX Mr ps' Jj st' (qQ.map W.d) (fin'.map W.d) (h_.map (Ar.d e))]))):=by
  refine Ex.of (n:=K+200) ?_;clear sA o1 o2 o3 Zj Zk o3';generalize iW kk ps Mr ps'=b1,fK aK qQ=b2,fK fin fin'=b3,av.length=m3,h_.length=m3' at*;unfold aX aV at*;generalize LK .i64 ps=l9 at*;generalize LK .i64 ps'=l9',aK.map W.d=es1,fin.map W.d=es2,av.map (Ar.d e)=es3,qQ.map W.d=ak8,fin'.map W.d=ak9,h_.map (Ar.d e)=aib at*;cases b1
  ·simp[f1014,t1]
  by_cases c1:sy=Jj
  rotate_left
  ·have c1':(sy != Jj)=true:=by simpa using c1
   simp[f1014,t1,c1,c1']
  have c1':(sy != Jj)=false:=by simpa using c1
  have d1:decide (sy=Jj)=true:=by simpa using c1
  rw[d1];clear c1 d1
  by_cases c2:st=st'
  rotate_left
  ·have c2':(st != st')=true:=by simpa using c2
   simp[f1014,t1,c1',c2,c2']
  have c2':(st != st')=false:=by simpa using c2
  have d2:decide (st=st')=true:=by simpa using c2
  rw[d2];clear c2 d2;cases b2
  ·simp[f1014,t1,t2,c1',c2']
  cases b3
  ·simp[f1014,t1,t2,t3,c1',c2']
  by_cases c3:(m3:Int)=m3'
  ·have c3':((m3:Int) != m3')=false:=by simpa using c3
   have d3:decide ((m3:Int)=m3')=true:=by simpa using c3
   rw[d3];clear c3 d3;simp[f1014,t1,t2,t3,c1',c2',c3',n3,n3']
  ·have c3':((m3:Int) != m3')=true:=by simpa using c3
   have d3:decide ((m3:Int)=m3')=false:=by simpa using c3
   rw[d3];clear c3 d3;simp[f1014,t1,t2,t3,c1',c2',c3',n3,n3']
 unfold BP P9
 by_cases hlen:av.length=h_.length
 ·have hd:decide ((av.length:Int)=h_.length)=true:=by simp[hlen]
  rw[hd,Qp1];rw[hd]at sB;simp only[X10]at sB;have hzl:(av.zip h_).length=av.length:=by rw[Xu1];omega
  generalize hb1:aX kk ps sy st (aK.map W.d) (fin.map W.d) (av.map (Ar.d e))=bx1 at*;generalize hb2:aX Mr ps' Jj st' (qQ.map W.d) (fin'.map W.d) (h_.map (Ar.d e))=bx2 at*;have hloop:=Ex.Ii (E:=E1) (b:=saL) (av.zip h_) (fun p=>decide (jL p.1 p.2=0)&&(e p.1.x).eq (e p.2.x)) (fun j=>saS bx1 bx2 j .u) (.exit 0,saS bx1 bx2 av.length (dB false))
   (.ret,(st0 (.u::.u::.u::.u::dB false::rJ) [bx1,bx2])) aC aC
   (fun j p hp=>by
    obtain⟨x,y⟩:=p;have hj:j<(av.zip h_).length:=(aU hp)
    obtain⟨hx,hy⟩:=Q00.1 hp;obtain⟨M,hM,u1,u2⟩:=((Ca.gV (pE (e x.x) (o3 x (Qa2 hx)) (e y.x) (o3' y (Qa2 hy)))).j ((P7 e x y).any)).at 0;have hj0:(0:Int)<=(j:Int):=ae;have aS:ak .i64 ((j:Int)+1)=(j:Int)+1:=wrap_i64 ae;have hk1:((j+1:Nat):Int)=(j:Int)+1:=ae;have e1:(av.map (Ar.d e))[j]?=some (x.d e):=by simp[hx]
    have e2:(h_.map (Ar.d e))[j]?=some (y.d e):=by simp[hy]
    have hjl:(j:Int)<(av.length:Int):=ae;obtain⟨s,l1,l2,c,b,u,q,qs,ew,ex⟩:=x.fH e;obtain⟨s',l1',l2',c',b',u',q',qs',ew2,ey⟩:=y.fH e;simp only[ew,ew2]at u1;simp only[ex,ey]at u2 e1 e2;subst hb1;subst hb2;clear sA sB o1 o2 o3 Zj Zk o3' t1 t2 t3 hp hx hy;unfold aX wD pQ at*;generalize aK.map W.d=es1,fin.map W.d=es2,av.map (Ar.d e)=es3,qQ.map W.d=ak8,fin'.map W.d=ak9,h_.map (Ar.d e)=aib at*;have i0:=idx e1;have i1:=idx e2;have fJ:j<es3.length:=(aU e1)
    have Sc:j<aib.length:=(aU e2)
    rw[<-n3]at hjl;generalize (e x.x).eq (e y.x)=r,jL x y=od at*;refine Ex.of (n:=M+200) ?_;unfold saS
    by_cases h0:od=0
    ·have h0':(od != 0)=false:=by simpa using h0
     have hd0:decide (od=0)=true:=by simpa using h0
     rw[hd0,Qp1];clear h0 hd0;cases r
     ·rw[if_neg aC];simp[saL,f1014,u1,u2,h0',hj0,fJ,Sc,hjl,e1,e2,i0,i1]
     ·rw[if_pos rfl,hk1];simp[saL,f1014,u1,u2,h0',hj0,fJ,Sc,hjl,e1,e2,i0,i1,aS]
    ·have h0':(od != 0)=true:=by simpa using h0
     have hd0:decide (od=0)=false:=by simpa using h0
     rw[hd0,Qz0,if_neg aC];simp[saL,f1014,u2,h0',hj0,fJ,Sc,hjl,e1,e2,i0,i1])
   (by
    rw[hzl];apply e6;subst hb1;subst hb2;unfold saS aX;rw[<-n3];generalize av.map (Ar.d e)=es3 at*;simp[saL,f1014])
  have sC:Ex E1 f1014.body.r.r.l.l (st0 [.u,.u,rL 0,rL 1,.u,.u,dB false,.u,.u] [bx1,bx2]) (.norm,saS bx1 bx2 0 .u):=by
   apply e6;unfold saS;simp[f1014]
  have sD:Ex E1 f1014.body.r.r.r (saS bx1 bx2 av.length (dB false)) (.ret,(st0 (.u::.u::.u::.u::dB true::rJ) [bx1,bx2])):=by
   apply e6;unfold saS;simp[f1014]
  have yj:∀ b:Bool,finish f1014 (st0 (.u::.u::.u::.u::dB b::rJ) [bx1,bx2])=some (dB b,none):=by
   intro b;simp[show f1014.res=[.var 4] from rfl,show f1014.ref=false from rfl]
  generalize hq:(av.zip h_).all (fun p=>decide (jL p.1 p.2=0)&&(e p.1.x).eq (e p.2.x))=q at*;have afg:(iW kk ps Mr ps'&&(decide (sy=Jj)&&(decide (st=st')&&(fK aK qQ&&(fK fin fin'&&q)))))=((iW kk ps Mr ps'&&(decide (sy=Jj)&&(decide (st=st')&&(fK aK qQ&&fK fin fin'))))&&q):=by
   simp only[Bool.and_assoc]
  rw[afg];generalize (iW kk ps Mr ps'&&(decide (sy=Jj)&&(decide (st=st')&&(fK aK qQ&&fK fin fin'))))=hd2 at*;cases hd2 with
  | false =>
   rw[if_neg aC]at sB;exact Ca.body (o:=.ret) rfl (k1014:E1.fn _=_) rfl (sA.seq (Ex.dE sB)) aC (yj false)
  | true =>
   rw[if_pos rfl]at sB;cases q with
   | true =>
    rw[if_pos rfl]at hloop;exact Ca.body (o:=.ret) rfl (k1014:E1.fn _=_) rfl (sA.seq (sB.seq (Ex.seq (sC.seq (Ex.block hloop)) sD))) aC (yj true)
   | false =>
    rw[if_neg aC]at hloop;exact Ca.body (o:=.ret) rfl (k1014:E1.fn _=_) rfl (sA.seq (sB.seq (Ex.dE (sC.seq (Ex.b_ hloop))))) aC (yj false)
 ·have hd:decide ((av.length:Int)=h_.length)=false:=by simp;omega
  rw[hd]at sB ⊢;simp only[Bool.and_false,Qz0]at sB ⊢;rw[if_neg aC]at sB;exact Ca.body (o:=.ret) rfl (k1014:E1.fn _=_) rfl (sA.seq (Ex.dE sB)) aC (by simp[show f1014.res=[.var 4] from rfl,show f1014.ref=false from rfl])
end
end Fi.S
noncomputable section
namespace Fi.S
open Go Fi
set_option maxHeartbeats 8000000
set_option maxRecDepth 10000
variable {α:Type} {e:α->W}
theorem KX (k:Int)(ps:List Int):iW k ps k ps=true:=by simp[iW]
theorem Ea:∀ ws:List W,fK ws ws=true:=by
 intro ws;unfold fK;simp only[decide_true,Qp1,Qh0];intro p hp;obtain⟨i,hi⟩:=Xc1.1 hp;rw[Q00]at hi;rw[cZ hi.1 hi.2];exact W.BJ _
theorem Oi (aq:List (Ar α)):P9 e aq aq=true:=by
 unfold P9;simp only[decide_true,Qp1,Qh0];intro p hp;obtain⟨i,hi⟩:=Xc1.1 hp;rw[Q00]at hi;rw[cZ hi.1 hi.2,W.BJ];have:jL p.2 p.2=0:=by
  rw[x_];exact⟨rfl,rfl,rfl⟩
 simp[this]
theorem Ir (kk:Int)(ps:List Int)(sy st:Int)(aK fin:List W)(av:List (Ar α)):BP kk ps sy st aK fin av kk ps sy st aK fin av e=true:=by
 unfold BP;rw[KX,Ea,Ea,Oi];simp
theorem zP {pl:α->α->α}{bD:α->Bool}(l:List (Ar α))(n:Nat)(h:l.length<=n):(dG pl bD l).length<=n:=by
 have hf:∀ (l p:List (Ar α)),(l.foldl (fun p x=>aZ pl x p) p).length<=p.length+l.length:=by
  intro l
  induction l with
  | nil=>intro p;simp
  | cons x l ih =>
   intro p;have:=ih (aZ pl x p);have:=wF pl x p;simp only[Qk2,Qf1];omega
 have h1:=Xh2 (fun a => !bD a.x) (bX pl l);have h2:=hf l [];unfold dG;unfold bX at*;simp only[Qs1]at h2;omega
end Fi.S
