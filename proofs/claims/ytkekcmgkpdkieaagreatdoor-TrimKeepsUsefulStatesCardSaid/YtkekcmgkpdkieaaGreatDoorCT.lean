import Derived.Test.YtkekcmgkpdkieaaGreatDoorCS
set_option linter.unusedVariables false
set_option linter.unusedSimpArgs false
noncomputable section
namespace Fi.S
open Go Fi
set_option maxHeartbeats 8000000
section
variable {α:Type} {e:α->W}
theorem TT (n:Nat)(x y z x' y' z':Int):CL E0 (n+300) 1090 [.d (.s 1 [vI x,vI y,vI z]),.d (.s 1 [vI x',vI y',vI z'])] [] =
  some (dI (XU (eO x x') (eO y y') (eO z z')),none):=by
 have w1:av .i64 1=1:=wrap_i64 ae;have w2:av .i64 2=2:=wrap_i64 ae;have w3:av .i64 3=3:=wrap_i64 ae;rw[aB rfl (aN 1090 f1090:E0.fn _=_) rfl];unfold XU;rcases fM x x' with ⟨h,h'⟩|⟨h,h'⟩|⟨h,h'⟩
 ·rw[h,if_neg ae];simp[f1090,aH,w1,w2,w3,h']
 ·subst h';rw[h,if_pos rfl];rcases fM y y' with ⟨k,k'⟩|⟨k,k'⟩|⟨k,k'⟩
  ·rw[k,if_neg ae];simp[f1090,aH,w1,w2,w3,k']
  ·subst k';rw[k,if_pos rfl];rcases fM z z' with ⟨m,m'⟩|⟨m,m'⟩|⟨m,m'⟩
   ·rw[m];simp[f1090,aH,w1,w2,w3,m']
   ·subst m';rw[m];simp[f1090,aH,w1,w2,w3]
   ·have m2:¬ z<z':=ae;rw[m];simp[f1090,aH,w1,w2,w3,m',m2]
  ·have k2:¬ y<y':=ae;rw[k,if_neg ae];simp[f1090,aH,w1,w2,w3,k',k2]
 ·have h2:¬ x<x':=ae;rw[h,if_neg ae];simp[f1090,aH,w1,w2,w3,h',h2]
theorem OV (e:α->W)(n:Nat)(a b:Ar α):CL E0 (n+400) 1047 [.d (a.d e),.d (b.d e)] []=some (dI (iG a b),none):=by
 obtain⟨s,l1,l2,c,i,u,p,ps,_,ea⟩:=a.dP e;obtain⟨s',Tw,Tx,c',i',u',p',ps',_,eb⟩:=b.dP e;rw[ea,eb];have t:=fun m=>TT m a.f a.l a.t b.f b.l b.t
 unfold iG;generalize XU (eO a.f b.f) (eO a.l b.l) (eO a.t b.t)=r at*;rw[aB rfl (aN 1047 f1047:E0.fn _=_) rfl];unfold mM;simp[f1047,t]
end
section
variable {α:Type} {e:α->W}
theorem MP (e:α->W)(a b:Ar α):Ca E1 1047 [.d (a.d e),.d (b.d e)] (dI (iG a b),none):=Ca.jg (Ca.bO (OV e 0 a b))
def MQ:aF:=f1089.body.r.r.l.r.bl.lp
def baM:aF:=f1089.body.r.r.l.r.bl.lp.r.l.bl.r.r.r.l.bl.lp
def Ei (es:FV)(xi:Nat)(out:FV)(i k:Nat)(t:FV)(L:List ai):St :=
 (st0 [.u,es,rL 0,.u,out,dI i,rL xi,dI k,.u,.u,.u,t,.u,.u,.u] L)
theorem Yd (es:FV)(xi:Nat)(out:FV)(i:Nat)(L:List ai)(aq:List (Ar α))(x:Ar α)(ho:jU e 0 out L aq)(has:aq.length<=1000000)(hx:L[xi]?=some (.box ((x.d e).cells.map .d))) :
  Ex E1 (.loop baM) (Ei es xi out i 0 .u L) (.exit 2,Ei es xi out i ((aq.findIdx? fun y => !decide (gP y x)).getD aq.length) (dB false) L):=by
 have hout:∀ (K:Prop),(out=.d (.n 11)/\aq=[]->K)->(∀ i az,out=.ls (.loc i) az 11 0 aq.length->L[i]?=some (.row az 11 (aq.map (Ar.d e)))->K)->K:=by
  intro K h1 h2;rcases ho with h|⟨i,az,_,h,h'⟩
  ·exact h1 h
  ·exact h2 i az h h'
 have h:=Ex.vV (E:=E1) (b:=baM) aq (fun y => !decide (gP y x)) (fun k=>Ei es xi out i k .u L) (.exit 2,Ei es xi out i aq.length (dB false) L) (fun k=>(.exit 2,Ei es xi out i k (dB false) L)) aC aC
  (fun j y hy=>by
   have hj:j<aq.length:=(aS hy)
   obtain⟨N,t⟩:=(MP e y x).get;refine hout _ (fun h=>by rw[h.2]at hy;simp at hy) (fun oi az hoe hrow => ?_);subst hoe;have hjn:(j:Int)<(aq.length:Int):=ae;have hj0:(0:Int)<=(j:Int):=ae;have aP:av .i64 ((j:Int)+1)=(j:Int)+1:=wrap_i64 ae;have hk1:((j+1:Nat):Int)=(j:Int)+1:=ae;have e1:(aq.map (Ar.d e))[j]?=some (y.d e):=by simp[hy]
   have hlt:=FI y x;obtain⟨s,l1,l2,c,b,u,p,q,_,ex⟩:=x.dP e;obtain⟨s',Tw,Tx,c',b',u',p',q',_,ey⟩:=y.dP e;simp only[ex,ey]at t e1 hx;unfold mM at*;have hel:(aq.map (Ar.d e)).length=aq.length:=aC;generalize aq.map (Ar.d e)=es',aq.length=n,iG y x=od at*;have i0:=idx e1;have i1:=idx hx;have i2:=idx hrow;have dw:j<es'.length:=(aS e1)
   have lx:xi<L.length:=(aS hx)
   have lo:oi<L.length:=(aS hrow)
   refine Ex.of (n:=N+200) ?_;unfold Ei
   by_cases h1:gP y x
   ·have h2:=hlt.2 h1;have hd:(!decide (gP y x))=false:=by simp[h1]
    rw[hd,if_neg aC,hk1];clear hlt h1 hd;simp[baM,f1089,t,hj0,hjn,dw,aP,e1,i0,i1,i2,hx,hrow,h2,lx,lo]
   ·have h2:¬ od<0:=fun h=>h1 (hlt.1 h)
    have h3:0<=od:=ae;have hd:(!decide (gP y x))=true:=by simp[h1]
    rw[hd,if_pos rfl];clear hlt h1 hd;simp[baM,f1089,t,hj0,hjn,dw,e1,i0,i1,i2,hx,hrow,h2,h3,lx,lo])
  (by
   refine hout _ (fun h => ?_) (fun oi az hoe hrow => ?_)
   ·obtain⟨rfl,rfl⟩:=h;refine Ex.of (n:=100) ?_;unfold Ei;simp[baM,f1089]
   ·subst hoe;refine Ex.of (n:=100) ?_;unfold Ei;generalize aq.length=n at*;simp[baM,f1089])
 cases hf:aq.findIdx? (fun y => !decide (gP y x)) with
 | none=>rw[hf]at h;exact h
 | some k=>rw[hf]at h;exact h
end
section
variable {α:Type} {e:α->W}
def baP:aF:=f1089.body.r.r.l.r.bl.lp.r.l.bl.r.r.r.r
def uZ (es:FV)(out:FV)(i:Nat)(t:FV)(L:List ai):St :=
 (st0 [.u,es,rL 0,.u,out,dI i,.u,.u,.u,.u,t,.u,.u,.u,.u] L)
theorem ab1 (es:FV)(xi:Nat)(out:FV)(i k:Nat)(L:List ai)(aq:List (Ar α))(x:Ar α)(ho:jU e 0 out L aq)(has:aq.length<=1000000)(hk:k<=aq.length)(hx:L[xi]?=some (.box ((x.d e).cells.map .d)))(hno:∀ y,aq[k]?=some y->iG y x≠0)(h0:0<L.length) :
  ∃ out' L',Ex E1 baP (Ei es xi out i k (dB false) L) (.norm,uZ es out' i .u L')/\(∀ j o,j<L.length->L[j]?=some o->L'[j]?=some o)/\jU e 0 out' L' (aq.take k++x::aq.drop k):=by
 have lx:xi<L.length:=(aS hx)
 have gx:∀ X,(L++X)[xi]?=some (.box ((x.d e).cells.map .d)):=fun X=>by rw[Qa0 lx];exact hx
 have keep:∀ X (j:Nat) (o:ai),j<L.length->L[j]?=some o->(L++X)[j]?=some o:=fun X j o h1 h2=>by rw[Qa0 h1];exact h2
 have sA:∀ c c':ai,(L++[c]).set L.length c'=L++[c']:=fun c c'=>by simp
 obtain⟨s,l1,l2,c,b,u,p,q,_,ex⟩:=x.dP e;rcases ho with ⟨rfl,rfl⟩|⟨oi,az,_,rfl,hrow⟩
 ·obtain rfl:k=0:=by simpa using hk
  refine⟨.ls (.loc L.length) 1 11 0 1,L++[.row 1 11 [x.d e]],?_,keep _,.inr ⟨L.length,1,ae,rfl,aC⟩⟩;rw[ex]at hx gx ⊢;unfold mM at*;have i1:=idx hx;have i2:=fun X=>idx (gx X)
  refine Ex.of (n:=200) ?_;unfold Ei uZ;simp[baP,f1089,jL,ER,hx,sA,most]
 ·have lo:oi<L.length:=(aS hrow)
  have gr:∀ X,(L++X)[oi]?=some (.row az 11 (aq.map (Ar.d e))):=fun X=>by rw[Qa0 lo];exact hrow
  have hel:(aq.map (Ar.d e)).length=aq.length:=aC;have hk0:(0:Int)<=(k:Int):=ae;have hkn:(k:Int)<=(aq.length:Int):=ae;have tkd:List.take (aq.length-k) (List.drop k (aq.map (Ar.d e)))=List.drop k (aq.map (Ar.d e)):=Qe0 aC;have tkn:List.take aq.length (aq.map (Ar.d e))=aq.map (Ar.d e):=Qe0 aC;have hv:(ai.row az 11 (aq.map (Ar.d e))).view az 11 k (aq.length-k)=some (List.drop k (aq.map (Ar.d e))):=by
   have h1:k+(aq.length-k)<=(aq.map (Ar.d e)).length:=by rw[hel];omega
   simp only[ai.view,h1,and_self,if_true,tkd]
  have hv0:(ai.row az 11 (aq.map (Ar.d e))).view az 11 0 k=some (List.take k (aq.map (Ar.d e))):=by
   have h1:0+k<=(aq.map (Ar.d e)).length:=by rw[hel];omega
   simp only[ai.view,h1,and_self,if_true,Xu1]
  have hfin:(aq.take k++x::aq.drop k).map (Ar.d e)=List.take k (aq.map (Ar.d e))++(x.d e::List.drop k (aq.map (Ar.d e))):=by simp[List.map_take,List.map_drop]
  have hfl:(aq.take k++x::aq.drop k).length=aq.length+1:=by simp;omega
  have ltk:(List.take k (aq.map (Ar.d e))).length=k:=by simp;omega
  have ldk:(List.drop k (aq.map (Ar.d e))).length=aq.length-k:=aC;have nk:aq.length-k<=1000000:=ae
  -- is an arc at k,at another place?
  have hcond:∃ N,∀ m,EX E1 (N+m) baP.l (Ei es xi (.ls (.loc oi) az 11 0 aq.length) i k (dB false) L)=some (.norm,{Ei es xi (.ls (.loc oi) az 11 0 aq.length) i k .u L with vars:=[.u,es,rL 0,.u,.ls (.loc oi) az 11 0 aq.length,dI i,rL xi,dI k,.u,.u,.u,.u,dB false,.u,.u]}):=by
   rcases Qg2 k aq.length with hlt|hge
   ·have hy:aq[k]?=some aq[k]:=Qa1 hlt;obtain⟨N,t⟩:=(MP e aq[k] x).get;have hne:=hno _ hy;have hne2:(iG aq[k] x==0)=false:=by simpa using hne
    generalize aq[k]=y at*;generalize iG y x=od at*;have e1:(aq.map (Ar.d e))[k]?=some (y.d e):=by simp[hy]
    have hkl:(k:Int)<(aq.length:Int):=ae;obtain⟨s',Tw,Tx,c',b',u',p',q',_,ey⟩:=y.dP e;simp only[ex,ey]at t e1 hx;unfold mM at*;generalize aq.map (Ar.d e)=es',aq.length=n at*;have i0:=idx e1;have i1:=idx hx;have i2:=idx hrow;have dw:k<es'.length:=(aS e1)
    refine⟨N+200,fun m => ?_⟩;rw[show N+200+m=(N+m)+200 by omega];replace t:=fun j=>bX (t 0) (show N+0<=N+m+j by omega)
    unfold Ei;simp[baP,f1089,t,hk0,hkl,dw,i0,i1,i2,hne2,lx,lo]
   ·refine⟨200,fun m => ?_⟩;have hkl:¬ (k:Int)<(aq.length:Int):=ae;have mP:(aq.length:Int)<=(k:Int):=ae;rw[show 200+m=m+200 by omega];unfold Ei;generalize aq.length=n at*;simp[baP,f1089,hkl]
  obtain⟨N,hcond⟩:=hcond;rcases Qq0 k with rfl|hpos
  ·have m1:(1+aq.length)*152<=1099511627776:=ae;have m2:1+aq.length<=1099511627776:=ae;refine⟨.ls (.loc L.length) 1 11 0 (1+aq.length),L++[.row 1 11 (x.d e::aq.map (Ar.d e))],Ex.seq (Ex.of (hcond 0)) ?_,keep _,.inr ⟨L.length,1,ae,by rw[hfl,Xo1],by rw[hfin];simp⟩⟩;clear hcond hfin hno;simp only[X11,Xu1]at hv;rw[ex]at hx gx ⊢;unfold mM at*;generalize aq.map (Ar.d e)=es',aq.length=n at*;have i1:=idx hx;have i2:=fun X=>idx (gx X)
   refine Ex.of (n:=200) ?_;unfold Ei uZ;simp[jL,ER,hx,gr,hrow,sA,most,hv,hv0,m1,m2,hel]
  ·have hne:(List.take k (aq.map (Ar.d e))).isEmpty=false:=by
    cases h:List.take k (aq.map (Ar.d e)) with
    | nil=>rw[h]at ltk;simp at ltk;omega
    | cons a r=>rfl
   have hne2:List.take k (aq.map (Ar.d e))≠[]:=by intro h;rw[h]at hne;cases hne
   have m1:k*152<=1099511627776:=ae;have m2:k<=1099511627776:=ae;have m3:(k+1)*152<=1099511627776:=ae;have m4:k+1<=1099511627776:=ae;have m5:(k+1+(aq.length-k))*152<=1099511627776:=ae;have m6:k+1+(aq.length-k)<=1099511627776:=ae;refine⟨.ls (.loc L.length) 2 11 0 (k+1+(aq.length-k)),L++[.row 2 11 (List.take k (aq.map (Ar.d e))++(x.d e::List.drop k (aq.map (Ar.d e))))],Ex.seq (Ex.of (hcond 0)) ?_,keep _,.inr ⟨L.length,2,ae,by rw[hfl];congr 1;omega,by rw[hfin];simp⟩⟩;clear hcond hfin hno;rw[ex]at hx gx ⊢;unfold mM at*;generalize aq.map (Ar.d e)=es' at*;have tk1:∀ v:D,List.take (k+1) (List.take k es'++[v])=List.take k es'++[v]:=fun v=>Qe0 (by rw[Qb0,ltk];simp)
   generalize hT:List.take k es'=T at*;generalize hD:List.drop k es'=T2 at*;generalize aq.length=n at*;have i1:=idx hx;have i2:=fun X=>idx (gx X)
   have tT:List.take k T=T:=Qe0 ae;refine Ex.of (n:=200) ?_;unfold Ei uZ;simp[jL,ER,gx,gr,hrow,sA,most,hv,hv0,hk0,hkn,hne,m1,m2,m3,m4,m5,m6,ltk,ldk,tk1,tT]
theorem Ye (kk:Int)(ps:List Int)(es:FV)(xi:Nat)(out:FV)(i k:Nat)(L:List ai)(aq:List (Ar α))(x y:Ar α)(pl:α->α->α)(ho:jU e 0 out L aq)(has:aq.length<=1000000)(hy:aq[k]?=some y)(hx:L[xi]?=some (.box ((x.d e).cells.map .d)))(heq:iG y x=0)(h0:L[0]?=some (aK kk ps))
  (hp:Ca E1 19 [.d (bD kk ps),.d (e y.x).d,.d (e x.x).d] (.d (e (pl y.x x.x)).d,none)) :
  ∃ L',Ex E1 baP (Ei es xi out i k (dB false) L) (.exit 1,uZ es out i .u L')/\L'[0]?=some (aK kk ps)/\jU e 0 out L' (aq.set k (iq pl y x)):=by
 have lx:xi<L.length:=(aS hx)
 obtain⟨N2,t2⟩:=hp.any;obtain⟨N3,t3⟩:=(MP e y x).any;rcases ho with ⟨_,h⟩|⟨oi,az,ho0,rfl,hrow⟩
 ·rw[h]at hy;simp at hy
 ·obtain⟨K,hK⟩:∃ K,K=N2+N3:=⟨_,rfl⟩
  replace t2:=t2 K ae;replace t3:=t3 K ae;rw[heq]at t3;have lo:oi<L.length:=(aS hrow)
  have hkl:k<aq.length:=(aS hy)
  have mP:(k:Int)<(aq.length:Int):=ae;have hk0:(0:Int)<=(k:Int):=ae;have e1:(aq.map (Ar.d e))[k]?=some (y.d e):=by simp[hy]
  have hfin:(aq.set k (iq pl y x)).map (Ar.d e)=(aq.map (Ar.d e)).set k ((iq pl y x).d e):=by rw[Q41]
  refine⟨L.set oi (.row az 11 ((aq.map (Ar.d e)).set k ((iq pl y x).d e))),?_,by rw[Qc0 ho0];exact h0,.inr ⟨oi,az,ho0,aC,by rw[hfin];exact Qd0 lo⟩⟩;obtain⟨xs,l1,l2,c,b,u,p,ps',ew,ex⟩:=x.dP e;obtain⟨ys,yl1,yl2,yc,yb,yu,yp,yps,X7,MJ⟩:=y.dP e;obtain⟨zs,Gn,Gp,zc,zb,zu,zp,Ic,ez,ZJ⟩:=(iq pl y x).dP e;have Tu:(e (pl y.x x.x)).d=wD zs Gn Gp zc zb zu zp Ic:=ez;simp only[ex,Tu,ew,MJ,X7,ZJ]at t2 t3 e1 hx ⊢;have f1:(iq pl y x).f=y.f:=rfl;have f2:(iq pl y x).l=y.l:=rfl;have f3:(iq pl y x).t=y.t:=rfl;rw[f1,f2,f3];clear ew ex ez Tu X7 MJ ZJ hp hfin f1 f2 f3 heq;unfold aK bD wD mM at*;generalize aq.map (Ar.d e)=es2,aq.length=n at*;have i0:=idx e1;have i1:=idx hx;have i2:=idx hrow;have i3:=idx h0;have l0:0<L.length:=ae;have dw:k<es2.length:=(aS e1)
  refine Ex.of (n:=K+300) ?_;unfold Ei uZ;simp[baP,f1089,t2,t3,hk0,mP,dw,i0,i1,i2,i3,lo,lx,l0]
end
section
variable {α:Type} {e:α->W} {pl:α->α->α} {z:W} {bT:α->Bool} {G:Nat->α->Prop} {m:Nat} {kk:Int} {ps:List Int}
theorem jU.keep {s:Nat}{out:FV}{L:List ai}{aq:List (Ar α)}(h:jU e s out L aq)(X:List ai):jU e s out (L++X) aq:=by
 rcases h with h|⟨i,az,h1,h2,h3⟩
 ·exact .inl h
 ·exact .inr ⟨i,az,h1,h2,by rw[Qa0 (aS h3)];exact h3⟩
theorem TU (hW:ML kk ps e pl z bT G m)(l:List (Ar α))(i n:Nat)(out:FV)(L:List ai)(aq:List (Ar α))(x:Ar α)(hl:l.length<=1000000)(hx:l[i]?=some x)(ho:jU e 0 out L aq)(has:aq.length<=1000000)(h0:L[0]?=some (aK kk ps))
  (hn:n<m) (hg:∀ a ∈ aq,G n a.x) (hgx:G 1 x.x) :
  ∃ out' L',Ex E1 MQ (uZ (.d (.s 11 (l.map (Ar.d e)))) out i .u L) (.norm,uZ (.d (.s 11 (l.map (Ar.d e)))) out' (i+1) .u L')/\L'[0]?=some (aK kk ps)/\jU e 0 out' L' (bu pl x aq):=by
 have hi:i<l.length:=(aS hx)
 have hil:(i:Int)<(l.length:Int):=ae;have hi0:(0:Int)<=(i:Int):=ae;have aP:av .i64 ((i:Int)+1)=(i:Int)+1:=wrap_i64 ae;have hk1:((i+1:Nat):Int)=(i:Int)+1:=ae;have e1:(l.map (Ar.d e))[i]?=some (x.d e):=by simp[hx]
 have hel:(l.map (Ar.d e)).length=l.length:=aC;have l0:0<L.length:=(aS h0)
 obtain⟨N,t⟩:=(hW.tk x.x hgx).get
 -- the arc is looked at,and its weight taken
 have s1:Ex E1 MQ.l (uZ (.d (.s 11 (l.map (Ar.d e)))) out i .u L) (.norm,uZ (.d (.s 11 (l.map (Ar.d e)))) out i (dB true) L):=by
  apply e6;unfold uZ;generalize l.map (Ar.d e)=es at*;rw[<-hel]at hil;simp[MQ,f1089,hil]
 have s2 := nx s1 MQ.r.l.bl.l {uZ (.d (.s 11 (l.map (Ar.d e)))) out i .u L with vars:=(.u::.d (.s 11 (l.map (Ar.d e)))::rL 0::.u::out::dI i::rL L.length::zf),loc:=L++[.box ((x.d e).cells.map .d)]} (by
  have sA:∀ c c':ai,(L++[c]).set L.length c'=L++[c']:=fun c c'=>by simp
  apply e6;obtain⟨s,l1,l2,c,b,u,p,q,_,ex⟩:=x.dP e;rw[ex]at e1 ⊢;unfold uZ mM at*;generalize l.map (Ar.d e)=es at*;have i0:=idx e1;have dw:i<es.length:=(aS e1)
  simp[MQ,f1089,hi0,dw,e1,i0,sA])
 have s3 := nx s2 MQ.r.l.bl.r.l {uZ (.d (.s 11 (l.map (Ar.d e)))) out i .u L with vars:=(.u::.d (.s 11 (l.map (Ar.d e)))::rL 0::.u::out::dI i::rL L.length::zf),loc:=L++[.box ((x.d e).cells.map .d)]} (by
  have sA:∀ c c':ai,(L++[c]).set L.length c'=L++[c']:=fun c c'=>by simp
  have g0:∀ X,(L++X)[0]?=some (aK kk ps):=fun X=>by rw[Qa0 l0];exact h0
  refine Ex.of (n:=N+60) ?_;obtain⟨s,l1,l2,c,b,u,p,q,ew,ex⟩:=x.dP e;rw[ew]at t;rw[ex];unfold uZ mM aK bD wD at*;generalize l.map (Ar.d e)=es at*;have i0:=fun X=>idx (g0 X)
  simp[MQ,f1089,t,sA,g0,i0])
 have s4 := nx s3 MQ.r.l.bl.r.r.l (Ei (.d (.s 11 (l.map (Ar.d e)))) L.length out i 0 .u (L++[.box ((x.d e).cells.map .d)])) (by
  apply e6;unfold uZ Ei;simp[MQ,f1089])
 have hbx:(L++[ai.box ((x.d e).cells.map .d)])[L.length]?=some (.box ((x.d e).cells.map .d)):=aC;have ho1:=ho.keep [.box ((x.d e).cells.map .d)];have s5:=Yd (.d (.s 11 (l.map (Ar.d e)))) L.length out i _ aq x ho1 has hbx;rw[show(aq.findIdx? fun y => !decide (gP y x)).getD aq.length=xJ x aq from rfl]at s5;have s6:∀ out' L',Ex E1 MQ.r.r (uZ (.d (.s 11 (l.map (Ar.d e)))) out' i .u L') (.norm,uZ (.d (.s 11 (l.map (Ar.d e)))) out' (i+1) .u L'):=by
  intro out' L';apply e6;unfold uZ;rw[hk1];simp[MQ,f1089,aP]
 have g1:(L++[ai.box ((x.d e).cells.map .d)])[0]?=some (aK kk ps):=by rw[Qa0 l0];exact h0
 by_cases hy:∃ y,aq[xJ x aq]?=some y/\kV y x
 ·obtain⟨y,hy,he⟩:=hy;obtain⟨L',h1,h2,h3⟩:=Ye kk ps (.d (.s 11 (l.map (Ar.d e)))) L.length out i _ _ aq x y pl ho1 has hy hbx ((vX y x).2 he) g1 (hW.p2 n y.x x.x hn (hg _ (Qb2 hy)) hgx);rw[yK pl x y aq hy he];exact⟨out,L',s1.seq (Ex.seq (Ex.block (s2.seq (s3.seq (s4.seq (Ex.seq (Ex.block s5) h1))))) (s6 _ _)),h2,h3⟩
 ·have hno:∀ y,aq[xJ x aq]?=some y->¬ kV y x:=fun y h1 h2=>hy ⟨y,h1,h2⟩
  obtain⟨out',L',h1,h2,h3⟩:=ab1 (.d (.s 11 (l.map (Ar.d e)))) L.length out i _ _ aq x ho1 has (X5 x aq) hbx (fun y h1 h2=>hno y h1 ((vX y x).1 h2)) aC;rw[BB pl x aq hno];exact⟨out',L',s1.seq (Ex.seq (Ex.fF (s2.seq (s3.seq (s4.seq (Ex.seq (Ex.block s5) h1))))) (s6 _ _)),h2 0 _ aC g1,h3⟩
theorem Yf (hW:ML kk ps e pl z bT G m)(l:List (Ar α))(hl:l.length<=1000000)(hm:l.length<=m)(hg:∀ a ∈ l,G 1 a.x)(L:List ai)(h0:L[0]?=some (aK kk ps)) :
  ∃ out L',Ex E1 (.loop MQ) (uZ (.d (.s 11 (l.map (Ar.d e)))) (.d (.n 11)) 0 .u L) (.exit 0,uZ (.d (.s 11 (l.map (Ar.d e)))) out l.length (dB false) L')/\L'[0]?=some (aK kk ps)/\jU e 0 out L' (di pl l)/\(∀ a ∈ di pl l,G (l.length+1) a.x)/\(di pl l).length<=l.length:=by
 have hel:(l.map (Ar.d e)).length=l.length:=aC;have hG:∀ {x:α} {n k:Nat},G n x->n<=k->G k x:=by
  intro x n k h hk
  induction k with
  | zero => obtain rfl : n = 0 :=ae
            exact h
  | succ k ih =>
   rcases Q21 hk with rfl|h2
   ·exact h
   ·exact hW.mono _ _ (ih ae)
 obtain⟨r,h1,out,L',h2,h3,h4,h5,h6⟩:=Ex.fold (E:=E1) (b:=MQ) l (fun p x=>bu pl x p) []
  (fun j acc st=>∃ out L,st=uZ (.d (.s 11 (l.map (Ar.d e)))) out j .u L/\L[0]?=some (aK kk ps)/\jU e 0 out L acc/\(∀ a ∈ acc,G j a.x)/\acc.length<=j)
  (fun acc r=>∃ out L,r=(.exit 0,uZ (.d (.s 11 (l.map (Ar.d e)))) out l.length (dB false) L)/\L[0]?=some (aK kk ps)/\jU e 0 out L acc/\(∀ a ∈ acc,G l.length a.x)/\acc.length<=l.length)
  (fun j x st hx ⟨out,L,hst,g0,g1,g2,g3⟩=>by
   subst hst;have hj:j<l.length:=(aS hx)
   have hgx:=hg x (Qb2 hx);obtain⟨out',L',k1,k2,k3⟩:=TU hW l j j out L _ x hl hx g1 ae g0 ae g2 hgx;refine⟨_,k1,out',L',rfl,k2,k3,?_,?_⟩
   ·exact o9 pl x (fun a=>G j a.x) (fun a=>G (j+1) a.x) (hG hgx ae) (fun y h=>hW.mono _ _ h) (fun y h=>hW.pg _ _ _ ae h hgx) _ g2
   ·have:=uC pl x ((l.take j).foldl (fun p x=>bu pl x p) []);omega)
  (fun st ⟨out,L,hst,g0,g1,g2,g3⟩=>by
   subst hst;refine⟨_,Ex.of (n:=60) (r:=(.exit 0,uZ (.d (.s 11 (l.map (Ar.d e)))) out l.length (dB false) L)) ?_,aC,out,L,rfl,g0,g1,g2,g3⟩;unfold uZ;generalize l.map (Ar.d e)=es at*;rw[<-hel];simp[MQ,f1089])
  (st:=uZ (.d (.s 11 (l.map (Ar.d e)))) (.d (.n 11)) 0 .u L) ⟨_,L,rfl,h0,.inl ⟨rfl,rfl⟩,aC,aC⟩
 subst h2;exact⟨out,L',h1,h3,h4,fun a ha=>hG (h5 a ha) ae,h6⟩
end
section
variable {α:Type} {e:α->W} {pl:α->α->α} {z:W} {bT:α->Bool} {G:Nat->α->Prop} {m:Nat} {kk:Int} {ps:List Int}
def Yg:aF:=f1089.body.r.r.r.r.l.r.bl.lp
def Dk (out kept:FV)(i:Nat)(t:FV)(L:List ai):St :=
 (st0 [.u,.u,rL 0,.u,out,.u,.u,.u,kept,dI i,.u,.u,.u,t,.u] L)
theorem TV (oi az n j:Nat)(kept:FV)(L:List ai)(aq ks:List (Ar α))(y:Ar α)(b:Bool)(has:aq.length=n)(hn:n<=1000000)(hks:ks.length<=1000000)(hrow:L[oi]?=some (.row az 11 (aq.map (Ar.d e))))(hy:aq[j]?=some y)(ho:jU e oi kept L ks)(h0:L[0]?=some (aK kk ps))
  (hz:Ca E1 1126 [.d (bD kk ps),.d (e y.x).d] (dB b,none)) :
  ∃ kept' L',Ex E1 Yg (Dk (.ls (.loc oi) az 11 0 n) kept j .u L) (.norm,Dk (.ls (.loc oi) az 11 0 n) kept' (j+1) .u L')/\L'[0]?=some (aK kk ps)/\L'[oi]?=some (.row az 11 (aq.map (Ar.d e)))/\jU e oi kept' L' (ks++if b then [] else [y]):=by
 obtain⟨N,t⟩:=hz.get;have hj:j<aq.length:=(aS hy)
 have hjn:(j:Int)<(n:Int):=ae;have hj0:(0:Int)<=(j:Int):=ae;have aP:av .i64 ((j:Int)+1)=(j:Int)+1:=wrap_i64 ae;have hk1:((j+1:Nat):Int)=(j:Int)+1:=ae;have e1:(aq.map (Ar.d e))[j]?=some (y.d e):=by simp[hy]
 have l0:0<L.length:=(aS h0)
 have lo:oi<L.length:=(aS hrow)
 have ho0:oi≠0:=fun h=>by subst h;rw[h0]at hrow;cases hrow
 have hel:(aq.map (Ar.d e)).length=n:=by simpa using has
 cases b with
 | true =>
  refine⟨kept,L,?_,h0,hrow,by simpa using ho⟩;obtain⟨s,l1,l2,c,i,u,p,q,ew,ex⟩:=y.dP e;rw[ew]at t;rw[ex]at e1;unfold aK bD wD mM at*;generalize LK .i64 ps=l9,aq.map (Ar.d e)=es at*;have i0:=idx e1;have i1:=idx hrow;have i2:=idx h0;have dw:j<es.length:=(aS e1)
  refine Ex.of (n:=N+200) ?_;unfold Dk;rw[hk1];simp[Yg,f1089,t,hj0,hjn,dw,aP,e1,i0,i1,i2,hrow,h0,lo,l0]
 | false =>
  rcases ho with ⟨rfl,rfl⟩|⟨ki,kv,hki,rfl,hk⟩
  ·refine⟨.ls (.loc L.length) 0 11 0 1,L++[.row 0 11 [y.d e]],?_,by rw[Qa0 l0];exact h0,by rw[Qa0 lo];exact hrow,.inr ⟨L.length,0,ae,rfl,aC⟩⟩;obtain⟨s,l1,l2,c,i,u,p,q,ew,ex⟩:=y.dP e;rw[ew]at t;simp only[ex]at e1 ⊢;unfold aK bD wD mM at*;generalize LK .i64 ps=l9,aq.map (Ar.d e)=es at*;have i0:=idx e1;have i1:=idx hrow;have i2:=idx h0;have dw:j<es.length:=(aS e1)
   refine Ex.of (n:=N+200) ?_;unfold Dk;rw[hk1];simp[Yg,f1089,t,hj0,hjn,dw,aP,e1,i0,i1,i2,hrow,h0,lo,l0,most]
  ·have lk:ki<L.length:=(aS hk)
   have hk0:ki≠0:=fun h=>by subst h;rw[h0]at hk;cases hk
   have m1:(ks.length+1)*152<=1099511627776:=ae;have m2:ks.length+1<=1099511627776:=ae;have hkl:(ks.map (Ar.d e)).length=ks.length:=aC;have tkk:List.take ks.length (ks.map (Ar.d e))=ks.map (Ar.d e):=Qe0 aC;refine⟨.ls (.loc ki) (kv+1) 11 0 (ks.length+1),L.set ki (.row (kv+1) 11 (ks.map (Ar.d e)++[y.d e])),?_,by rw[Qc0 hk0];exact h0,by rw[Qc0 hki];exact hrow,
    .inr ⟨ki,kv+1,hki,aC,by rw[Qd0 lk];simp⟩⟩
   obtain⟨s,l1,l2,c,i,u,p,q,ew,ex⟩:=y.dP e;rw[ew]at t;simp only[ex]at e1 ⊢;unfold aK bD wD mM at*;generalize aq.map (Ar.d e)=es,ks.map (Ar.d e)=es2,ks.length=k at*;have i0:=idx e1;have i1:=idx hrow;have i2:=idx h0;have i3:=idx hk;have dw:j<es.length:=(aS e1)
   refine Ex.of (n:=N+200) ?_;unfold Dk;rw[hk1];simp[Yg,f1089,t,hj0,hjn,dw,aP,e1,i0,i1,i2,i3,hrow,h0,hk,lo,l0,lk,most,m1,m2,hkl,tkk]
theorem Yh (oi az:Nat)(L:List ai)(aq:List (Ar α))(hn:aq.length<=1000000)(hrow:L[oi]?=some (.row az 11 (aq.map (Ar.d e))))(h0:L[0]?=some (aK kk ps))
  (hz:∀ a ∈ aq,Ca E1 1126 [.d (bD kk ps),.d (e a.x).d] (dB (bT a.x),none)) :
  ∃ kept L',Ex E1 (.loop Yg) (Dk (.ls (.loc oi) az 11 0 aq.length) (.d (.n 11)) 0 .u L) (.exit 4,Dk (.ls (.loc oi) az 11 0 aq.length) kept aq.length (dB false) L')/\jU e oi kept L' (aq.filter fun a => !bT a.x):=by
 have hff:∀ (l p:List (Ar α)),l.foldl (fun p y=>p++if bT y.x then [] else [y]) p=p++l.filter fun a => !bT a.x:=by
  intro l
  induction l with
  | nil=>intro p;simp
  | cons a l ih=>intro p;rw[Qp0,ih];cases h:bT a.x<;>simp[h]
 obtain⟨r,h1,kept,L',h2,h3⟩:=Ex.fold (E:=E1) (b:=Yg) aq (fun p y=>p++if bT y.x then [] else [y]) []
  (fun j acc st=>∃ kept L,st=Dk (.ls (.loc oi) az 11 0 aq.length) kept j .u L/\L[0]?=some (aK kk ps)/\L[oi]?=some (.row az 11 (aq.map (Ar.d e)))/\jU e oi kept L acc/\acc.length<=j)
  (fun acc r=>∃ kept L,r=(.exit 4,Dk (.ls (.loc oi) az 11 0 aq.length) kept aq.length (dB false) L)/\jU e oi kept L acc)
  (fun j y st hy ⟨kept,L,hst,g0,g1,g2,g3⟩=>by
   subst hst;have hj:j<aq.length:=(aS hy)
   obtain⟨kept',L',k1,k2,k3,k4⟩:=TV oi az aq.length j kept L aq _ y (bT y.x) rfl hn ae g1 hy g2 g0 (hz y (Qb2 hy));refine⟨_,k1,kept',L',rfl,k2,k3,k4,?_⟩;have h9:(if bT y.x then [] else [y]:List (Ar α)).length<=1:=by split<;>simp
   rw[Qb0];omega)
  (fun st ⟨kept,L,hst,g0,g1,g2,g3⟩=>by
   subst hst;refine⟨_,Ex.of (n:=60) (r:=(.exit 4,Dk (.ls (.loc oi) az 11 0 aq.length) kept aq.length (dB false) L)) ?_,aC,kept,L,rfl,g2⟩;unfold Dk;generalize aq.length=n at*;simp[Yg,f1089])
  (st:=Dk (.ls (.loc oi) az 11 0 aq.length) (.d (.n 11)) 0 .u L) ⟨_,L,rfl,h0,hrow,.inl ⟨rfl,rfl⟩,aC⟩
 subst h2;rw[hff,Qn0]at h3;exact⟨kept,L',h1,h3⟩
theorem TW (hW:ML kk ps e pl z bT G m)(l:List (Ar α))(hl:l.length<=100000)(hm:l.length<m)(hg:∀ a ∈ l,G 1 a.x) :
  Ca E1 1089 [.d (bD kk ps),.d (.s 11 (l.map (Ar.d e)))] (.d (.s 11 (((di pl l).filter fun a => !bT a.x).map (Ar.d e))),none):=by
 have sA:Ex E1 f1089.body.l (st0 (.d (bD kk ps)::.d (.s 11 (l.map (Ar.d e)))::Gu) [])
   (.norm,(st0 (.u::.d (.s 11 (l.map (Ar.d e)))::rL 0::Nn) [aK kk ps])):=by
  apply e6;unfold bD aK;simp[f1089]
 have sB := nx sA f1089.body.r.l (st0 (.u::.d (.s 11 (l.map (Ar.d e)))::rL 0::.u::.d (.n 11)::oD) [aK kk ps]) (by
  apply e6;simp[f1089])
 have sC := nx sB f1089.body.r.r.l.l (uZ (.d (.s 11 (l.map (Ar.d e)))) (.d (.n 11)) 0 .u [aK kk ps]) (by
  apply e6;unfold uZ;simp[f1089])
 obtain⟨out,L,h1,h2,h3,h4,h5⟩:=Yf hW l ae ae hg [aK kk ps] rfl;have sD:Ex E1 f1089.body.r.r.r.l (uZ (.d (.s 11 (l.map (Ar.d e)))) out l.length (dB false) L) (.norm,{Dk out (.d (.n 11)) 0 .u L with vars:=(.u::.u::rL 0::.u::out::.u::.u::.u::.d (.n 11)::qm)}):=by
  apply e6;unfold uZ Dk;simp[f1089]
 have sE := nx sD f1089.body.r.r.r.r.l.l (Dk out (.d (.n 11)) 0 .u L) (by
  apply e6;unfold Dk;simp[f1089])
 have key:∃ kept n L' s,Ex E1 (.loop Yg) (Dk out (.d (.n 11)) 0 .u L) (.exit 4,Dk out kept n (dB false) L')/\jU e s kept L' ((di pl l).filter fun a => !bT a.x):=by
  rcases h3 with ⟨rfl,hnil⟩|⟨oi,az,hoi,rfl,hrow⟩
  ·rw[hnil];refine⟨.d (.n 11),0,L,0,Ex.leave (Ex.of (n:=60) ?_) aC,.inl ⟨rfl,rfl⟩⟩;unfold Dk;simp[Yg,f1089]
  ·obtain⟨kept,L',k1,k2⟩:=Yh (bT:=bT) oi az L (di pl l) ae hrow h2 (fun a ha=>hW.z2 _ _ ae (h4 a ha));exact⟨kept,_,L',oi,k1,k2⟩
 obtain⟨kept,n,L',s,k1,k2⟩:=key;have sF:Ex E1 f1089.body.r.r.r.r.r (Dk out kept n (dB false) L') (.ret,(st0 (.u::.u::.u::kept::Gt) (L'))):=by
  apply e6;unfold Dk;simp[f1089]
 refine Ca.body (o:=.ret) rfl (aN 1089 f1089:E1.fn _=_) rfl (sA.seq (sB.seq (Ex.seq (sC.seq (Ex.block h1)) (sD.seq (Ex.seq (sE.seq (Ex.block k1)) sF))))) aC ?_;rcases k2 with ⟨rfl,hnil⟩|⟨ki,kv,_,rfl,hk⟩
 ·rw[hnil];simp[show f1089.res=[.var 3] from rfl,show f1089.ref=false from rfl]
 ·generalize (di pl l).filter (fun a => !bT a.x)=ks at*;have h9:ai.view kv 11 0 ks.length (.row kv 11 (ks.map (Ar.d e)))=some (ks.map (Ar.d e)):=by
   have:List.take ks.length (ks.map (Ar.d e))=ks.map (Ar.d e):=Qe0 aC;simp[ai.view,this]
  simp[show f1089.res=[.var 3] from rfl,show f1089.ref=false from rfl,hk,h9]
end
set_option maxRecDepth 10000
section
variable {α:Type} {e:α->W} {pl:α->α->α} {z:W} {bT:α->Bool} {G:Nat->α->Prop} {m:Nat} {kk:Int} {ps:List Int}
theorem TY (kk:Int)(ps:List Int)(hl:ps.length<=1000000):Ca E1 1043 [.d (bD kk ps)] (.d (bD kk ps),none):=by
 have hll:(LK .i64 ps).length<=1000000:=by simpa[LK] using hl
 refine Ca.bO (n:=100) ?_;rw[aB rfl (aN 1043 f1043:E1.fn _=_) rfl];unfold bD;generalize LK .i64 ps=l9 at*;cases l9 with
 | nil=>simp[f1043,most]
 | cons d ds =>
  have m1:(d::ds).length*8<=1099511627776:=ae;have m2:(d::ds).length<=1099511627776:=ae;simp only[Qf2]at m1 m2;simp[f1043,most,m1,m2,ai.view]
def btL:aF:=f1088.body.r.r.l.r.bl.lp
def OW (es:List D)(out:FV)(j:Nat)(t:FV)(L:List ai):St :=
 (st0 [.u,.d (.s 8 es),rL 0,.u,out,dI j,t] L)
theorem TZ (ws:List W)(j:Nat)(out:FV)(L:List ai)(aq:List D)(x:W)(hn:ws.length<=1000000)(h0:L[0]?=some (aK kk ps))(hx:ws[j]?=some x)(ho:IB 0 out L aq)(has:aq.length<=1000000)
  (hp:Ca E1 53 [.d (bD kk ps),.d x.d] (.d x.d,none)) :
  ∃ out' L',Ex E1 btL (OW (ws.map W.d) out j .u L) (.norm,OW (ws.map W.d) out' (j+1) .u L')/\L'[0]?=some (aK kk ps)/\IB 0 out' L' (aq++[x.d]):=by
 obtain⟨K,t⟩:=hp.get;have hj:j<ws.length:=(aS hx)
 have hj0:(0:Int)<=(j:Int):=ae;have aP:av .i64 ((j:Int)+1)=(j:Int)+1:=wrap_i64 ae;have hk1:((j+1:Nat):Int)=(j:Int)+1:=ae;have e1:(ws.map W.d)[j]?=some x.d:=by simp[hx]
 have l0:0<L.length:=(aS h0)
 rcases ho with ⟨rfl,rfl⟩|⟨i,az,hi0,rfl,hrow⟩
 ·refine⟨.ls (.loc L.length) 0 8 0 1,L++[.row 0 8 [x.d]],?_,by rw[Qa0 l0];exact h0,.inr ⟨L.length,0,ae,rfl,aC⟩⟩;obtain⟨s,l1,l2,c,b,u,p,q,ex⟩:=x.bq;simp only[ex]at t e1 ⊢;unfold aK bD wD at*;generalize LK .i64 ps=l9,ws.map W.d=es at*;have i0:=idx e1;have j0:=idx h0;have dw:j<es.length:=(aS e1)
  have hjl:(j:Int)<(es.length:Int):=ae;refine Ex.of (n:=K+300) ?_;unfold OW;rw[hk1];simp[btL,f1088,t,hj0,dw,hjl,aP,e1,i0,j0,h0,l0,most]
 ·have li:i<L.length:=(aS hrow)
  have m1:(aq.length+1)*128<=1099511627776:=ae;have m2:aq.length+1<=1099511627776:=ae;refine⟨.ls (.loc i) (az+1) 8 0 (aq.length+1),L.set i (.row (az+1) 8 (aq++[x.d])),?_,?_,.inr ⟨i,az+1,hi0,aC,Qd0 li⟩⟩
  ·obtain⟨s,l1,l2,c,b,u,p,q,ex⟩:=x.bq;simp only[ex]at t e1 ⊢;unfold aK bD wD at*;generalize ws.map W.d=es at*;have i0:=idx e1;have j0:=idx h0;have ji:=idx hrow;have dw:j<es.length:=(aS e1)
   have hjl:(j:Int)<(es.length:Int):=ae;refine Ex.of (n:=K+300) ?_;unfold OW;rw[hk1];simp[btL,f1088,t,hj0,dw,hjl,aP,e1,i0,j0,ji,h0,l0,hrow,li,most,m1,m2]
  ·rw[Qc0 hi0];exact h0
theorem IC (ws:List W)(hn:ws.length<=1000000)(hp:∀ x ∈ ws,Ca E1 53 [.d (bD kk ps),.d x.d] (.d x.d,none)) :
  Ca E1 1088 [.d (bD kk ps),.d (.s 8 (ws.map W.d))] (.d (.s 8 (ws.map W.d)),none):=by
 have hff:∀ (l:List W) (p:List D),l.foldl (fun p x=>p++[x.d]) p=p++l.map W.d:=by
  intro l
  induction l with
  | nil=>intro p;simp
  | cons a l ih=>intro p;rw[Qp0,ih];simp
 have hel:(ws.map W.d).length=ws.length:=aC;obtain⟨r,h1,out,L,h2,h3⟩:=Ex.fold (E:=E1) (b:=btL) ws (fun p x=>p++[x.d]) []
  (fun j acc st=>∃ out L,st=OW (ws.map W.d) out j .u L/\L[0]?=some (aK kk ps)/\IB 0 out L acc/\acc.length=j)
  (fun acc r=>∃ out L,r=(.exit 0,OW (ws.map W.d) out ws.length (dB false) L)/\IB 0 out L acc)
  (fun j x st hx ⟨out,L,hst,g0,g1,g2⟩=>by
   subst hst;have hj:j<ws.length:=(aS hx)
   obtain⟨out',L',k1,k2,k3⟩:=TZ (kk:=kk) (ps:=ps) ws j out L _ x hn g0 hx g1 ae (hp x (Qb2 hx));exact⟨_,k1,out',L',rfl,k2,k3,by rw[Qb0,g2];rfl⟩)
  (fun st ⟨out,L,hst,g0,g1,g2⟩=>by
   subst hst;refine⟨_,Ex.of (n:=60) (r:=(.exit 0,OW (ws.map W.d) out ws.length (dB false) L)) ?_,aC,out,L,rfl,g1⟩;unfold OW;generalize ws.map W.d=es at*;rw[<-hel];simp[btL,f1088])
  (st:=OW (ws.map W.d) (.d (.n 8)) 0 .u [aK kk ps]) ⟨_,_,rfl,rfl,.inl ⟨rfl,rfl⟩,rfl⟩
 subst h2;rw[hff,Qn0]at h3;have sA:Ex E1 f1088.body.l (st0 (.d (bD kk ps)::.d (.s 8 (ws.map W.d))::iO) [])
   (.norm,(st0 (.u::.d (.s 8 (ws.map W.d))::rL 0::mO) [aK kk ps])):=by
  apply e6;unfold bD aK;simp[f1088]
 have sB := nx sA f1088.body.r.l (st0 [.u,.d (.s 8 (ws.map W.d)),rL 0,.u,.d (.n 8),.u,.u] [aK kk ps]) (by
  apply e6;simp[f1088])
 have sC := nx sB f1088.body.r.r.l.l (OW (ws.map W.d) (.d (.n 8)) 0 .u [aK kk ps]) (by
  apply e6;unfold OW;simp[f1088])
 have sD:Ex E1 f1088.body.r.r.r (OW (ws.map W.d) out ws.length (dB false) L) (.ret,(st0 [.u,.u,.u,out,.u,.u,.u] L)):=by
  apply e6;unfold OW;simp[f1088]
 refine Ca.body (o:=.ret) rfl (aN 1088 f1088:E1.fn _=_) rfl (sA.seq (sB.seq (Ex.seq (sC.seq (Ex.block h1)) sD))) aC ?_;generalize ws.map W.d=es at*;rcases h3 with ⟨rfl,rfl⟩|⟨i,az,_,rfl,hrow⟩
 ·simp[show f1088.res=[.var 3] from rfl,show f1088.ref=false from rfl]
 ·have h9:ai.view az 8 0 es.length (.row az 8 es)=some es:=by simp[ai.view]
  simp[show f1088.res=[.var 3] from rfl,show f1088.ref=false from rfl,hrow,h9]
theorem Yi (hW:ML kk ps e pl z bT G m)(sy st:Int)(aJ fin:List α)(ak:List (Ar α))(hl:ps.length<=1000000)(hn:ak.length<=100000)(hm:ak.length<m)(h1:aJ.length<=1000000)(h2:fin.length<=1000000)
  (g1:∀ x ∈ aJ,G 1 x) (g2:∀ x ∈ fin,G 1 x) (g3:∀ a ∈ ak,G 1 a.x) :
  Ca E1 1044 [.d (mR kk ps sy st (aJ.map e) (fin.map e) e ak)] (.d (mR kk ps sy st (aJ.map e) (fin.map e) e (nV pl bT ak)),none):=by
 obtain⟨N2,t2⟩:=(TY kk ps hl).any;obtain⟨N3,t3⟩:=(IC (kk:=kk) (ps:=ps) (aJ.map e) (by simpa using h1) (fun x hx=>by
  obtain⟨a,ha,rfl⟩:=Qj2.1 hx;exact hW.tk a (g1 a ha))).any
 obtain⟨N4,t4⟩:=(IC (kk:=kk) (ps:=ps) (fin.map e) (by simpa using h2) (fun x hx=>by
  obtain⟨a,ha,rfl⟩:=Qj2.1 hx;exact hW.tk a (g2 a ha))).any
 obtain⟨N5,t5⟩:=(TW hW ak hn hm g3).any;obtain⟨K,hK⟩:∃ K,K=N2+N3+N4+N5:=⟨_,rfl⟩
 replace t2:=t2 K ae;replace t3:=t3 K ae;replace t4:=t4 K ae;replace t5:=t5 K ae;rw[show(di pl ak).filter (fun a => !bT a.x)=nV pl bT ak from rfl]at t5;refine Ca.bO (n:=K+200) ?_;rw[aB rfl (aN 1044 f1044:E1.fn _=_) rfl];unfold mR gI bD at*;generalize (nV pl bT ak).map (Ar.d e)=es4,ak.map (Ar.d e)=Yb,(aJ.map e).map W.d=es1,(fin.map e).map W.d=es2 at*;simp[f1044,t2,t3,t4,t5]
end
section
variable {α:Type} {e:α->W} {kk:Int} {ps:List Int}
def ZQ:D:=gI 0 [] 0 0 [] [] []
end
section
variable {α:Type} {e:α->W} {kk:Int} {ps:List Int}
theorem TS (n:Nat)(x lo hi:Int):CL E1 (n+100) 1041 [dI x,dI lo,dI hi] []=some (dB (BF x lo hi),none):=by
 rw[aB rfl (aN 1041 f1041:E1.fn _=_) rfl];unfold BF
 by_cases h1:lo<=x
 ·simp[f1041,h1]
 ·have h2:x<lo:=ae;simp[f1041,h1,h2]
theorem FN (n:Nat)(x:Int):CL E1 (n+100) 1040 [dI x] []=some (dB (BF x 1 32),none):=by
 rw[aB rfl (aN 1040 f1040:E1.fn _=_) rfl];unfold BF
 by_cases h1:1<=x
 ·simp[f1040,h1]
 ·have h2:x<1:=ae;simp[f1040,h1,h2]
end
section
variable {α:Type} {e:α->W}
def dQ (ws ws':List W):Bool:=decide ((ws.length:Int)=ws'.length)&&(ws.zip ws').all fun p=>p.1.eq p.2
def Ej (e:α->W)(aq aq':List (Ar α)):Bool:=decide ((aq.length:Int)=aq'.length)&&(aq.zip aq').all fun p=>decide (iG p.1 p.2=0)&&(e p.1.x).eq (e p.2.x)
def slL:aF:=f1046.body.r.r.l.r.bl.lp
def ZR (es es':List D)(j:Nat)(t:FV):St:=(st0 [.d (.s 8 es),.d (.s 8 es'),.u,dI j,.u,t,.u] [])
theorem yN (ws ws':List W)(hn:ws.length<=1000000)(o1:∀ w ∈ ws,w.OK)(o2:∀ w ∈ ws',w.OK) :
  Ca E1 1046 [.d (.s 8 (ws.map W.d)),.d (.s 8 (ws'.map W.d))] (dB (dQ ws ws'),none):=by
 have n1:(ws.map W.d).length=ws.length:=aC;have n2:(ws'.map W.d).length=ws'.length:=aC;unfold dQ
 by_cases hlen:ws.length=ws'.length
 ·have hd:decide ((ws.length:Int)=ws'.length)=true:=by simp[hlen]
  rw[hd,Ql0];have hzl:(ws.zip ws').length=ws.length:=by rw[Xm0];omega
  have hloop:=Ex.vU (E:=E1) (b:=slL) (ws.zip ws') (fun p=>p.1.eq p.2) (fun j=>ZR (ws.map W.d) (ws'.map W.d) j .u) (.exit 0,ZR (ws.map W.d) (ws'.map W.d) ws.length (dB false))
   (.ret,(st0 (.u::.u::dB false::mO) [])) aC aC
   (fun j p hp=>by
    obtain⟨x,y⟩:=p;have hj:j<(ws.zip ws').length:=(aS hp)
    obtain⟨hx,hy⟩:=Q71.1 hp;obtain⟨N,t⟩:=(Ca.jg (rZ x (o1 x (Qb2 hx)) y (o2 y (Qb2 hy)))).get;have hj0:(0:Int)<=(j:Int):=ae;have aP:av .i64 ((j:Int)+1)=(j:Int)+1:=wrap_i64 ae;have hk1:((j+1:Nat):Int)=(j:Int)+1:=ae;have e1:(ws.map W.d)[j]?=some x.d:=by simp[hx]
    have e2:(ws'.map W.d)[j]?=some y.d:=by simp[hy]
    obtain⟨s,l1,l2,c,b,u,q,ps,ex⟩:=x.bq;obtain⟨s',Tw,Tx,c',b',u',q',ps',ey⟩:=y.bq;simp only[ex,ey]at t e1 e2;unfold wD at*;generalize ws.map W.d=es,ws'.map W.d=es' at*;have i0:=idx e1;have i1:=idx e2;have dw:j<es.length:=(aS e1)
    have OX:j<es'.length:=(aS e2)
    have hjl:(j:Int)<(es.length:Int):=ae;generalize x.eq y=r at*;refine Ex.of (n:=N+100) ?_;unfold ZR;cases r
    ·rw[if_neg aC];simp[slL,f1046,t,hj0,dw,OX,hjl,e1,e2,i0,i1]
    ·rw[if_pos rfl,hk1];simp[slL,f1046,t,hj0,dw,OX,hjl,e1,e2,i0,i1,aP])
   (by
    rw[hzl];apply e6;unfold ZR;rw[<-n1];generalize ws.map W.d=es at*;simp[slL,f1046])
  have hne:((ws.length:Int) != (ws'.length:Int))=false:=by simp[hlen]
  have sA:Ex E1 f1046.body.l (st0 (.d (.s 8 (ws.map W.d))::.d (.s 8 (ws'.map W.d))::iO) []) (.norm,(st0 (.d (.s 8 (ws.map W.d))::.d (.s 8 (ws'.map W.d))::iO) [])):=by
   apply e6;simp[f1046]
  have sB := nx sA f1046.body.r.l (st0 [.d (.s 8 (ws.map W.d)),.d (.s 8 (ws'.map W.d)),.u,.u,dB false,.u,.u] []) (by
   apply e6;rw[<-n1,<-n2]at hne;clear hloop;generalize ws.map W.d=es,ws'.map W.d=es' at*;simp[f1046,hne])
  have sC := nx sB f1046.body.r.r.l.l (ZR (ws.map W.d) (ws'.map W.d) 0 .u) (by
   apply e6;unfold ZR;simp[f1046])
  cases hr:(ws.zip ws').all fun p=>p.1.eq p.2 with
  | true =>
   rw[hr,if_pos rfl]at hloop;have sD:Ex E1 f1046.body.r.r.r (ZR (ws.map W.d) (ws'.map W.d) ws.length (dB false)) (.ret,(st0 (.u::.u::dB true::mO) [])):=by
    apply e6;unfold ZR;simp[f1046]
   refine Ca.body (o:=.ret) rfl (k1046:E1.fn _=_) rfl (sA.seq (sB.seq (Ex.seq (sC.seq (Ex.block hloop)) sD))) aC ?_;simp[show f1046.res=[.var 2] from rfl,show f1046.ref=false from rfl]
  | false =>
   rw[hr,if_neg aC]at hloop;refine Ca.body (o:=.ret) rfl (k1046:E1.fn _=_) rfl (sA.seq (sB.seq (Ex.bN (sC.seq (Ex.bG hloop))))) aC ?_;simp[show f1046.res=[.var 2] from rfl,show f1046.ref=false from rfl]
 ·have hd:decide ((ws.length:Int)=ws'.length)=false:=by simp;omega
  have hne:((ws.length:Int) != (ws'.length:Int))=true:=by simp;omega
  rw[hd,Qs1];refine Ca.bO (n:=100) ?_;rw[aB rfl (k1046:E1.fn _=_) rfl];rw[<-n1,<-n2]at hne;generalize ws.map W.d=es,ws'.map W.d=es' at*;simp[f1046,hne]
def o_ (kk:Int)(ps:List Int)(sy st:Int)(aJ fin:List W)(ak:List (Ar α))(Dl:Int)(ps':List Int)(BH st':Int)(jq fin':List W)(dz:List (Ar α))(e:α->W):Bool :=
 fe kk ps Dl ps'&&(decide (sy=BH)&&(decide (st=st')&&(dQ aJ jq&&(dQ fin fin'&&Ej e ak dz))))
def saL:aF:=f1014.body.r.r.l.r.bl.lp
def ZT (b1 b2:ai)(j:Nat)(t:FV):St:=(st0 [.u,.u,rL 0,rL 1,.u,dI j,.u,t,.u] [b1,b2])
theorem yO (kk:Int)(ps:List Int)(sy st:Int)(aJ fin:List W)(ak:List (Ar α))(Dl:Int)(ps':List Int)(BH st':Int)(jq fin':List W)(dz:List (Ar α))(hl:ps.length<=1000000)(hl':ps'.length<=1000000)
  (h1:aJ.length<=1000000) (h2:fin.length<=1000000) (h3:ak.length<=1000000) (o1:∀ w ∈ aJ,w.OK) (o2:∀ w ∈ fin,w.OK) (o3:∀ a ∈ ak,(e a.x).OK) (OY:∀ w ∈ jq,w.OK) (OZ:∀ w ∈ fin',w.OK) (o3':∀ a ∈ dz,(e a.x).OK) :
  Ca E1 1014 [.d (mR kk ps sy st aJ fin e ak),.d (mR Dl ps' BH st' jq fin' e dz)] (dB (o_ kk ps sy st aJ fin ak Dl ps' BH st' jq fin' dz e),none):=by
 obtain⟨K,hK,t1,t2,t3⟩:=((Ca.jg (NZ kk Dl ps ps' ae ae)).j ((yN aJ jq h1 o1 OY).j ((yN fin fin' h2 o2 OZ).any))).at 0;have n3:(ak.map (Ar.d e)).length=ak.length:=aC;have n3':(dz.map (Ar.d e)).length=dz.length:=aC;have sA:Ex E1 f1014.body.l (st0 (.d (mR kk ps sy st aJ fin e ak)::.d (mR Dl ps' BH st' jq fin' e dz)::nO) [])
   (.norm,(st0 (.u::.u::rL 0::rL 1::iO) [aO kk ps sy st (aJ.map W.d) (fin.map W.d) (ak.map (Ar.d e)),aO Dl ps' BH st' (jq.map W.d) (fin'.map W.d) (dz.map (Ar.d e))])):=by
  apply e6;unfold mR gI aO;simp[f1014]
 -- the heads
 have sB:Ex E1 f1014.body.r.l (st0 (.u::.u::rL 0::rL 1::iO) [aO kk ps sy st (aJ.map W.d) (fin.map W.d) (ak.map (Ar.d e)),aO Dl ps' BH st' (jq.map W.d) (fin'.map W.d) (dz.map (Ar.d e))])
   (if fe kk ps Dl ps'&&(decide (sy=BH)&&(decide (st=st')&&(dQ aJ jq&&(dQ fin fin'&&decide ((ak.length:Int)=dz.length)))))
    then(.norm,(st0 [.u,.u,rL 0,rL 1,.u,.u,dB false,.u,.u] [aO kk ps sy st (aJ.map W.d) (fin.map W.d) (ak.map (Ar.d e)),aO Dl ps' BH st' (jq.map W.d) (fin'.map W.d) (dz.map (Ar.d e))]))
    else(.ret,(st0 (.u::.u::.u::.u::dB false::mO) [aO kk ps sy st (aJ.map W.d) (fin.map W.d) (ak.map (Ar.d e)),aO Dl ps' BH st' (jq.map W.d) (fin'.map W.d) (dz.map (Ar.d e))]))):=by
  refine Ex.of (n:=K+200) ?_;clear sA o1 o2 o3 OY OZ o3';generalize fe kk ps Dl ps'=b1,dQ aJ jq=b2,dQ fin fin'=b3,ak.length=m3,dz.length=m3' at*;unfold aO bD at*;generalize LK .i64 ps=l9 at*;generalize LK .i64 ps'=l9',aJ.map W.d=es1,fin.map W.d=es2,ak.map (Ar.d e)=Yb,jq.map W.d=ae7,fin'.map W.d=ae8,dz.map (Ar.d e)=ab2 at*;cases b1
  ·simp[f1014,t1]
  by_cases c1:sy=BH
  rotate_left
  ·have c1':(sy != BH)=true:=by simpa using c1
   simp[f1014,t1,c1,c1']
  have c1':(sy != BH)=false:=by simpa using c1
  have d1:decide (sy=BH)=true:=by simpa using c1
  rw[d1];clear c1 d1
  by_cases c2:st=st'
  rotate_left
  ·have c2':(st != st')=true:=by simpa using c2
   simp[f1014,t1,c1',c2,c2']
  have c2':(st != st')=false:=by simpa using c2
  have d2:decide (st=st')=true:=by simpa using c2
  rw[d2];clear c2 d2;cases b2
  ·simp[f1014,t1,t2,c1',c2']
  cases b3
  ·simp[f1014,t1,t2,t3,c1',c2']
  by_cases c3:(m3:Int)=m3'
  ·have c3':((m3:Int) != m3')=false:=by simpa using c3
   have d3:decide ((m3:Int)=m3')=true:=by simpa using c3
   rw[d3];clear c3 d3;simp[f1014,t1,t2,t3,c1',c2',c3',n3,n3']
  ·have c3':((m3:Int) != m3')=true:=by simpa using c3
   have d3:decide ((m3:Int)=m3')=false:=by simpa using c3
   rw[d3];clear c3 d3;simp[f1014,t1,t2,t3,c1',c2',c3',n3,n3']
 unfold o_ Ej
 by_cases hlen:ak.length=dz.length
 ·have hd:decide ((ak.length:Int)=dz.length)=true:=by simp[hlen]
  rw[hd,Ql0];rw[hd]at sB;simp only[Bool.and_true]at sB;have hzl:(ak.zip dz).length=ak.length:=by rw[Xm0];omega
  generalize hb1:aO kk ps sy st (aJ.map W.d) (fin.map W.d) (ak.map (Ar.d e))=bx1 at*;generalize hb2:aO Dl ps' BH st' (jq.map W.d) (fin'.map W.d) (dz.map (Ar.d e))=ZU at*;have hloop:=Ex.vU (E:=E1) (b:=saL) (ak.zip dz) (fun p=>decide (iG p.1 p.2=0)&&(e p.1.x).eq (e p.2.x)) (fun j=>ZT bx1 ZU j .u) (.exit 0,ZT bx1 ZU ak.length (dB false))
   (.ret,(st0 (.u::.u::.u::.u::dB false::mO) [bx1,ZU])) aC aC
   (fun j p hp=>by
    obtain⟨x,y⟩:=p;have hj:j<(ak.zip dz).length:=(aS hp)
    obtain⟨hx,hy⟩:=Q71.1 hp;obtain⟨M,hM,u1,u2⟩:=((Ca.jg (rZ (e x.x) (o3 x (Qb2 hx)) (e y.x) (o3' y (Qb2 hy)))).j ((MP e x y).any)).at 0;have hj0:(0:Int)<=(j:Int):=ae;have aP:av .i64 ((j:Int)+1)=(j:Int)+1:=wrap_i64 ae;have hk1:((j+1:Nat):Int)=(j:Int)+1:=ae;have e1:(ak.map (Ar.d e))[j]?=some (x.d e):=by simp[hx]
    have e2:(dz.map (Ar.d e))[j]?=some (y.d e):=by simp[hy]
    have hjl:(j:Int)<(ak.length:Int):=ae;obtain⟨s,l1,l2,c,b,u,q,qs,ew,ex⟩:=x.dP e;obtain⟨s',Tw,Tx,c',b',u',q',qs',X7,ey⟩:=y.dP e;simp only[ew,X7]at u1;simp only[ex,ey]at u2 e1 e2;subst hb1;subst hb2;clear sA sB o1 o2 o3 OY OZ o3' t1 t2 t3 hp hx hy;unfold aO wD mM at*;generalize aJ.map W.d=es1,fin.map W.d=es2,ak.map (Ar.d e)=Yb,jq.map W.d=ae7,fin'.map W.d=ae8,dz.map (Ar.d e)=ab2 at*;have i0:=idx e1;have i1:=idx e2;have dw:j<Yb.length:=(aS e1)
    have OX:j<ab2.length:=(aS e2)
    rw[<-n3]at hjl;generalize (e x.x).eq (e y.x)=r,iG x y=od at*;refine Ex.of (n:=M+200) ?_;unfold ZT
    by_cases h0:od=0
    ·have h0':(od != 0)=false:=by simpa using h0
     have hd0:decide (od=0)=true:=by simpa using h0
     rw[hd0,Ql0];clear h0 hd0;cases r
     ·rw[if_neg aC];simp[saL,f1014,u1,u2,h0',hj0,dw,OX,hjl,e1,e2,i0,i1]
     ·rw[if_pos rfl,hk1];simp[saL,f1014,u1,u2,h0',hj0,dw,OX,hjl,e1,e2,i0,i1,aP]
    ·have h0':(od != 0)=true:=by simpa using h0
     have hd0:decide (od=0)=false:=by simpa using h0
     rw[hd0,Qs1,if_neg aC];simp[saL,f1014,u2,h0',hj0,dw,OX,hjl,e1,e2,i0,i1])
   (by
    rw[hzl];apply e6;subst hb1;subst hb2;unfold ZT aO;rw[<-n3];generalize ak.map (Ar.d e)=Yb at*;simp[saL,f1014])
  have sC:Ex E1 f1014.body.r.r.l.l (st0 [.u,.u,rL 0,rL 1,.u,.u,dB false,.u,.u] [bx1,ZU]) (.norm,ZT bx1 ZU 0 .u):=by
   apply e6;unfold ZT;simp[f1014]
  have sD:Ex E1 f1014.body.r.r.r (ZT bx1 ZU ak.length (dB false)) (.ret,(st0 (.u::.u::.u::.u::dB true::mO) [bx1,ZU])):=by
   apply e6;unfold ZT;simp[f1014]
  have ab3:∀ b:Bool,finish f1014 (st0 (.u::.u::.u::.u::dB b::mO) [bx1,ZU])=some (dB b,none):=by
   intro b;simp[show f1014.res=[.var 4] from rfl,show f1014.ref=false from rfl]
  generalize hq:(ak.zip dz).all (fun p=>decide (iG p.1 p.2=0)&&(e p.1.x).eq (e p.2.x))=q at*;have ab4:(fe kk ps Dl ps'&&(decide (sy=BH)&&(decide (st=st')&&(dQ aJ jq&&(dQ fin fin'&&q)))))=((fe kk ps Dl ps'&&(decide (sy=BH)&&(decide (st=st')&&(dQ aJ jq&&dQ fin fin'))))&&q):=by
   simp only[Bool.and_assoc]
  rw[ab4];generalize (fe kk ps Dl ps'&&(decide (sy=BH)&&(decide (st=st')&&(dQ aJ jq&&dQ fin fin'))))=hd2 at*;cases hd2 with
  | false =>
   rw[if_neg aC]at sB;exact Ca.body (o:=.ret) rfl (k1014:E1.fn _=_) rfl (sA.seq (Ex.bN sB)) aC (ab3 false)
  | true =>
   rw[if_pos rfl]at sB;cases q with
   | true =>
    rw[if_pos rfl]at hloop;exact Ca.body (o:=.ret) rfl (k1014:E1.fn _=_) rfl (sA.seq (sB.seq (Ex.seq (sC.seq (Ex.block hloop)) sD))) aC (ab3 true)
   | false =>
    rw[if_neg aC]at hloop;exact Ca.body (o:=.ret) rfl (k1014:E1.fn _=_) rfl (sA.seq (sB.seq (Ex.bN (sC.seq (Ex.bG hloop))))) aC (ab3 false)
 ·have hd:decide ((ak.length:Int)=dz.length)=false:=by simp;omega
  rw[hd]at sB ⊢;simp only[Bool.and_false,Qs1]at sB ⊢;rw[if_neg aC]at sB;exact Ca.body (o:=.ret) rfl (k1014:E1.fn _=_) rfl (sA.seq (Ex.bN sB)) aC (by simp[show f1014.res=[.var 4] from rfl,show f1014.ref=false from rfl])
end
end Fi.S
noncomputable section
namespace Fi.S
open Go Fi
set_option maxHeartbeats 8000000
set_option maxRecDepth 10000
variable {α:Type} {e:α->W}
theorem IE (k:Int)(ps:List Int):fe k ps k ps=true:=by simp[fe]
theorem BI:∀ ws:List W,dQ ws ws=true:=by
 intro ws;unfold dQ;simp only[decide_true,Ql0,Qf0];intro p hp;obtain⟨i,hi⟩:=Xh0.1 hp;rw[Q71]at hi;rw[zL hi.1 hi.2];exact W.Fq _
theorem KY (aq:List (Ar α)):Ej e aq aq=true:=by
 unfold Ej;simp only[decide_true,Ql0,Qf0];intro p hp;obtain⟨i,hi⟩:=Xh0.1 hp;rw[Q71]at hi;rw[zL hi.1 hi.2,W.Fq];have:iG p.2 p.2=0:=by
  rw[vX];exact⟨rfl,rfl,rfl⟩
 simp[this]
theorem FO (kk:Int)(ps:List Int)(sy st:Int)(aJ fin:List W)(ak:List (Ar α)):o_ kk ps sy st aJ fin ak kk ps sy st aJ fin ak e=true:=by
 unfold o_;rw[IE,BI,BI,KY];simp
theorem IG (kk:Int)(ps:List Int)(sy st:Int)(aJ fin:List W)(ak:List (Ar α))(hl:ps.length<=1000000)
  (h1:aJ.length<=1000000) (h2:fin.length<=1000000) (h3:ak.length<=1000000) (o1:∀ w ∈ aJ,w.OK) (o2:∀ w ∈ fin,w.OK) (o3:∀ a ∈ ak,(e a.x).OK) :
  Ca E1 1014 [.d (mR kk ps sy st aJ fin e ak),.d (mR kk ps sy st aJ fin e ak)] (dB true,none):=by
 have h:=yO kk ps sy st aJ fin ak kk ps sy st aJ fin ak hl hl h1 h2 h3 o1 o2 o3 o1 o2 o3;rw[FO]at h;exact h
theorem ae9 (e:α->W):ZQ=mR 0 [] 0 0 [] [] e []:=rfl
theorem O0 {pl:α->α->α}{bT:α->Bool}(l:List (Ar α))(n:Nat)(h:l.length<=n):(nV pl bT l).length<=n:=by
 have hf:∀ (l p:List (Ar α)),(l.foldl (fun p x=>bu pl x p) p).length<=p.length+l.length:=by
  intro l
  induction l with
  | nil=>intro p;simp
  | cons x l ih =>
   intro p;have:=ih (bu pl x p);have:=uC pl x p;simp only[Qp0,Qf2];omega
 have h1:=Q80 (fun a => !bT a.x) (di pl l);have h2:=hf l [];unfold nV;unfold di at*;simp only[Qw0]at h2;omega
end Fi.S
