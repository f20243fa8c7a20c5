import Derived.Test.YtgngjdakilfmoaaGreatDoorCQ
set_option linter.unusedVariables false
set_option linter.unusedSimpArgs false
noncomputable section
namespace Fi.S
open Go Fi
set_option maxHeartbeats 8000000
section
variable {α:Type} {e:α->W}
def kS (e:α->W)(s:Nat)(out:FV)(L:List ah)(aq:List (Ar α)):Prop:=(out=.d (.n 11)/\aq=[])\/∃ i av,i≠s/\out=.ls (.loc i) av 11 0 aq.length/\L[i]?=some (.row av 11 (aq.map (Ar.d e)))
def iT (J:List ah):Prop:=∀ n,J.map (ah.az n)=J
theorem iT.add {J X:List ah}(h:iT J)(hx:iT X):iT (J++X):=fun n=>by rw[Qn0,h,hx]
theorem iT.put {J:List ah}(h:iT J)(i:Nat){r:ah}(hr:∀ n,ah.az n r=r):iT (J.set i r):=fun n=>by rw[Q51,h,hr]
theorem iT.one {r:ah}(hr:∀ n,ah.az n r=r):iT [r]:=fun n=>by simp[hr]
theorem oC (av sz:Nat)(es:List D)(n:Nat):ah.az n (.row av sz es)=.row av sz es:=rfl
theorem mM (cs:List D)(n:Nat):ah.az n (.box (cs.map .d))=.box (cs.map .d):=by simp[ah.az,fI,FV.az,Xp0]
def aR (kk:Int)(ps:List Int):ah:=.box [dI kk,.d (.s 1 (LK .i64 ps))]
def tyL:aF:=f1064.body.r.r.r.r.l.r.bl.lp
def KM (s n j:Nat)(out t:FV)(L:List ah)(dt:Bool):St :=
 {vars:=[.u,.u,rL 0,.u,.u,out,.u,.u,.ls (.loc s) 1 11 0 n,dI n,dI j,t,.u],base:=[],loc:=L,aX:=dt}
theorem ahG (e:α->W)(a b:Ar α):Ca E1 1070 [.d (a.d e),.d (b.d e)] (dI (lQ a b),none):=Ca.gM (Ca.bQ (DW e 0 a b))
theorem aeI (kk:Int)(ps:List Int)(s n j:Nat)(out:FV)(L:List ah)(dt:Bool)(aq sl:List (Ar α))(x:Ar α)(z:W)(h0:L[0]?=some (aR kk ps))(hs:L[s]?=some (.row 1 11 (sl.map (Ar.d e))))(hsl:sl.length=n)(hn:n<=1000000)
  (hx:sl[j]?=some x) (ho:kS e s out L aq) (has:aq.length<=1000000) (hno:∀ y,aq.getLast?=some y->lQ y x≠0)
  (hz:Ca E1 26 [.d (aU kk ps)] (.d z.d,none)) (hp:Ca E1 14 [.d (aU kk ps),.d (e x.x).d,.d z.d] (.d (e x.x).d,none)) :
  ∃ out' L' ,Ex E1 tyL (KM s n j out .u L dt) (.norm,KM s n (j+1) out' .u L' dt)/\L'[0]?=some (aR kk ps)/\L'[s]?=some (.row 1 11 (sl.map (Ar.d e)))/\kS e s out' L' (aq++[x])/\(iT L->iT L'):=by
 obtain⟨N1,t1⟩:=hz.any;obtain⟨N2,t2⟩:=hp.any;have hj:j<sl.length:=(aT hx)
 have hjn:(j:Int)<(n:Int):=ae;have hj0:(0:Int)<=(j:Int):=ae;have aW:ak .i64 ((j:Int)+1)=(j:Int)+1:=wrap_i64 ae;have hk1:((j+1:Nat):Int)=(j:Int)+1:=ae;have e1:(sl.map (Ar.d e))[j]?=some (x.d e):=by simp[hx]
 have l0:0<L.length:=(aT h0)
 have ls:s<L.length:=(aT hs)
 have g0:∀ X,(L++X)[0]?=some (aR kk ps):=fun X=>by rw[Qa0 l0];exact h0
 have gs:∀ X,(L++X)[s]?=some (.row 1 11 (sl.map (Ar.d e))):=fun X=>by rw[Qa0 ls];exact hs
 have sA:∀ b b':ah,(L++[b]).set L.length b'=L++[b']:=fun b b'=>by simp
 rcases ho with ⟨rfl,rfl⟩|⟨i,av,his,rfl,hrow⟩
 ·obtain⟨K,hK⟩:∃ K,K=N1+N2:=⟨_,rfl⟩
  replace t1:=t1 K ae;replace t2:=t2 K ae;obtain⟨xs,l1,l2,c,b,u,p,q,ew,ex⟩:=x.iA e;obtain⟨zs,wS,wT,zc,zb,zu,zp,BA,ez⟩:=z.aH;refine⟨.ls (.loc (L.length+1)) 0 11 0 1,L++[.box ((x.d e).cells.map .d),.row 0 11 [x.d e]],?_,g0 _,gs _,.inr ⟨L.length+1,0,ae,rfl,by rw[Qc0 ae];simp⟩,fun hJ=>hJ.add (iT.add (J:=[_]) (X:=[_]) (iT.one (mM _)) (iT.one (oC _ _ _)))⟩;simp only[ex,ez,ew]at t1 t2 e1 gs hs ⊢;clear ew ex ez hno hp hz;unfold aR aU wD rV at*;generalize LK .i64 ps=l9,sl.map (Ar.d e)=es at*;have i0:=idx e1;have j0:=fun X=>idx (g0 X)
  have js:=fun X=>idx (gs X)
  have jJ:j<es.length:=(aT e1)
  refine Ex.of (n:=K+300) ?_;unfold KM;rw[hk1];simp[tyL,f1064,t1,t2,hj0,hjn,jJ,aW,i0,j0,hs,sA,most]
 ·rcases Q92 aq with rfl|⟨q,y,rfl⟩
  ·-- an empty row
   obtain⟨K,hK⟩:∃ K,K=N1+N2:=⟨_,rfl⟩
   replace t1:=t1 K ae;replace t2:=t2 K ae;have hi0:i≠0:=fun h=>by subst h;rw[h0]at hrow;cases hrow
   have li:i<L.length:=(aT hrow)
   have gi:∀ X,(L++X)[i]?=some (.row av 11 []):=fun X=>by rw[Qa0 li];exact hrow
   have si:∀ X r,(L++X).set i r=L.set i r++X:=fun X r=>Qq2 _ _ li
   obtain⟨xs,l1,l2,c,b,u,p,q,ew,ex⟩:=x.iA e;obtain⟨zs,wS,wT,zc,zb,zu,zp,BA,ez⟩:=z.aH;refine⟨.ls (.loc i) (av+1) 11 0 1,L.set i (.row (av+1) 11 [x.d e])++[.box ((x.d e).cells.map .d)],?_,?_,?_,.inr ⟨i,av+1,his,rfl,?_⟩,fun hJ=>(hJ.put i (oC _ _ _)).add (iT.one (mM _))⟩
   ·simp only[ex,ez,ew]at t1 t2 e1 gs hs ⊢;clear ew ex ez hno hp hz;unfold aR aU wD rV at*;generalize LK .i64 ps=l9,sl.map (Ar.d e)=es at*;have i0:=idx e1;have j0:=fun X=>idx (g0 X)
    have js:=fun X=>idx (gs X)
    have jJ:j<es.length:=(aT e1)
    refine Ex.of (n:=K+300) ?_;unfold KM;rw[hk1];simp[tyL,f1064,t1,t2,hj0,hjn,jJ,aW,i0,j0,hs,sA,most,gi,si]
   ·rw[Qa0 (by simpa using l0),Qb2 hi0];exact h0
   ·rw[Qa0 (by simpa using ls),Qb2 his];exact hs
   ·rw[Qa0 (by simpa using li),Qd1 li];rfl
  ·obtain⟨N3,t3⟩:=(ahG e y x).any;obtain⟨K,hK⟩:∃ K,K=N1+N2+N3:=⟨_,rfl⟩
   replace t1:=t1 K ae;replace t2:=t2 K ae;replace t3:=t3 K ae;have hi0:i≠0:=fun h=>by subst h;rw[h0]at hrow;cases hrow
   have li:i<L.length:=(aT hrow)
   have ahH:=hno y aC;have aeJ:(lQ y x==0)=false:=by simpa using ahH
   simp only[Q50]at*;have hlen:(q++[y]).length=q.length+1:=aC;rw[hlen]at has;have hcast:((q.length+1:Nat):Int)=(q.length:Int)+1:=ae;have hpos:(0:Int)<(q.length:Int)+1:=ae;have hq0:(0:Int)<=(q.length:Int):=ae;have hw1:ak .i64 (q.length:Int)=(q.length:Int):=wrap_i64 ae;have hq1:(q.length:Int)<(q.length:Int)+1:=ae;have ey:((q++[y]).map (Ar.d e))[q.length]?=some (y.d e):=aC;have hrl:((q++[y]).map (Ar.d e)).length=q.length+1:=aC;have gi:∀ X,(L++X)[i]?=some (.row av 11 ((q++[y]).map (Ar.d e))):=fun X=>by rw[Qa0 li];exact hrow
   have si:∀ X r,(L++X).set i r=L.set i r++X:=fun X r=>Qq2 _ _ li
   have tkr:((q++[y]).map (Ar.d e)).take (q.length+1)=(q++[y]).map (Ar.d e):=Qe1 aC;have m1:(q.length+1+1)*152<=1099511627776:=ae;have m2:q.length+1+1<=1099511627776:=ae;have hfin:(q++[y]++[x]).map (Ar.d e)=(q++[y]).map (Ar.d e)++[x.d e]:=aC;have FE:(q++[y]++[x]).length=q.length+1+1:=aC;refine⟨.ls (.loc i) (av+1) 11 0 (q.length+1+1),L.set i (.row (av+1) 11 ((q++[y]).map (Ar.d e)++[x.d e]))++[.box ((x.d e).cells.map .d)],?_,?_,?_,.inr ⟨i,av+1,his,by rw[FE],?_⟩,fun hJ=>(hJ.put i (oC _ _ _)).add (iT.one (mM _))⟩
   ·obtain⟨xs,l1,l2,c,b,u,p,ps',ew,ex⟩:=x.iA e;obtain⟨ys,TA,TB,yc,yb,yu,yp,yps,ew2,Gd⟩:=y.iA e;obtain⟨zs,wS,wT,zc,zb,zu,zp,BA,ez⟩:=z.aH;simp only[ex,ez,ew,Gd]at t1 t2 t3 e1 ey ⊢;rw[hlen];generalize lQ y x=od at*;clear ew ex ez ew2 Gd hno hp hz hfin FE ahH hlen;unfold aR aU wD rV at*;generalize sl.map (Ar.d e)=es,(q++[y]).map (Ar.d e)=es2,q.length=m at*;have i0:=idx e1;have j0:=fun X=>idx (g0 X)
    have js:=fun X=>idx (gs X)
    have i1:=idx ey;have jJ:j<es.length:=(aT e1)
    refine Ex.of (n:=K+300) ?_;unfold KM;rw[hk1];simp[tyL,f1064,t1,t2,t3,hj0,hjn,jJ,aW,i0,j0,i1,hs,sA,most,gi,si,hpos,hq0,hw1,hq1,aeJ,hrl,tkr,m1,m2,hcast]
   ·rw[Qa0 (by simpa using l0),Qb2 hi0];exact h0
   ·rw[Qa0 (by simpa using ls),Qb2 his];exact hs
   ·rw[Qa0 (by simpa using li),Qd1 li,hfin]
theorem aa4 (kk:Int)(ps:List Int)(s n j:Nat)(out:FV)(L:List ah)(dt:Bool)(q sl:List (Ar α))(pl:α->α->α)(x y:Ar α)(h0:L[0]?=some (aR kk ps))(hs:L[s]?=some (.row 1 11 (sl.map (Ar.d e))))(hsl:sl.length=n)(hn:n<=1000000)
  (hx:sl[j]?=some x) (ho:kS e s out L (q++[y])) (has:q.length<=1000000) (heq:lQ y x=0) (hp:Ca E1 14 [.d (aU kk ps),.d (e y.x).d,.d (e x.x).d] (.d (e (pl y.x x.x)).d,none)) :
  ∃ L' ,Ex E1 tyL (KM s n j out .u L dt) (.norm,KM s n (j+1) out .u L' dt)/\L'[0]?=some (aR kk ps)/\L'[s]?=some (.row 1 11 (sl.map (Ar.d e)))/\kS e s out L' (q++[jg pl y x])/\(iT L->iT L'):=by
 obtain⟨N2,t2⟩:=hp.any;obtain⟨N3,t3⟩:=(ahG e y x).any;have hj:j<sl.length:=(aT hx)
 have hjn:(j:Int)<(n:Int):=ae;have hj0:(0:Int)<=(j:Int):=ae;have aW:ak .i64 ((j:Int)+1)=(j:Int)+1:=wrap_i64 ae;have hk1:((j+1:Nat):Int)=(j:Int)+1:=ae;have e1:(sl.map (Ar.d e))[j]?=some (x.d e):=by simp[hx]
 have l0:0<L.length:=(aT h0)
 have ls:s<L.length:=(aT hs)
 have g0:∀ X,(L++X)[0]?=some (aR kk ps):=fun X=>by rw[Qa0 l0];exact h0
 have gs:∀ X,(L++X)[s]?=some (.row 1 11 (sl.map (Ar.d e))):=fun X=>by rw[Qa0 ls];exact hs
 have sA:∀ b b':ah,(L++[b]).set L.length b'=L++[b']:=fun b b'=>by simp
 rcases ho with ⟨_,h⟩|⟨i,av,his,rfl,hrow⟩
 ·simp at h
 ·obtain⟨K,hK⟩:∃ K,K=N2+N3:=⟨_,rfl⟩
  replace t2:=t2 K ae;replace t3:=t3 K ae;rw[heq]at t3;have hi0:i≠0:=fun h=>by subst h;rw[h0]at hrow;cases hrow
  have li:i<L.length:=(aT hrow)
  have hlen:(q++[y]).length=q.length+1:=aC;have hcast:((q.length+1:Nat):Int)=(q.length:Int)+1:=ae;have hpos:(0:Int)<(q.length:Int)+1:=ae;have hq0:(0:Int)<=(q.length:Int):=ae;have hw1:ak .i64 (q.length:Int)=(q.length:Int):=wrap_i64 ae;have hq1:(q.length:Int)<(q.length:Int)+1:=ae;have ey:((q++[y]).map (Ar.d e))[q.length]?=some (y.d e):=aC;have hrl:((q++[y]).map (Ar.d e)).length=q.length+1:=aC;have gi:∀ X,(L++X)[i]?=some (.row av 11 ((q++[y]).map (Ar.d e))):=fun X=>by rw[Qa0 li];exact hrow
  have si:∀ X r,(L++X).set i r=L.set i r++X:=fun X r=>Qq2 _ _ li
  have hfin:(q++[jg pl y x]).map (Ar.d e)=((q++[y]).map (Ar.d e)).set q.length ((jg pl y x).d e):=by
   rw[Qn0,Qn0,Q00 _ _ aC];simp
  refine⟨L.set i (.row av 11 (((q++[y]).map (Ar.d e)).set q.length ((jg pl y x).d e)))++[.box ((x.d e).cells.map .d)],?_,?_,?_,.inr ⟨i,av,his,aC,?_⟩,fun hJ=>(hJ.put i (oC _ _ _)).add (iT.one (mM _))⟩
  ·obtain⟨xs,l1,l2,c,b,u,p,ps',ew,ex⟩:=x.iA e;obtain⟨ys,TA,TB,yc,yb,yu,yp,yps,ew2,Gd⟩:=y.iA e;obtain⟨zs,wS,wT,zc,zb,zu,zp,BA,ez,WB⟩:=(jg pl y x).iA e;have KF:(e (pl y.x x.x)).d=wD zs wS wT zc zb zu zp BA:=ez;simp only[ex,KF,ew,Gd,ew2,WB]at t2 t3 e1 ey ⊢;rw[hlen];have f1:(jg pl y x).f=y.f:=rfl;have f2:(jg pl y x).l=y.l:=rfl;have f3:(jg pl y x).t=y.t:=rfl;rw[f1,f2,f3];clear ew ex ez KF ew2 Gd WB hp hfin hlen f1 f2 f3 heq;unfold aR aU wD rV at*;generalize sl.map (Ar.d e)=es,(q++[y]).map (Ar.d e)=es2,q.length=m at*;have i0:=idx e1;have j0:=fun X=>idx (g0 X)
   have js:=fun X=>idx (gs X)
   have i1:=idx ey;have jJ:j<es.length:=(aT e1)
   refine Ex.of (n:=K+300) ?_;unfold KM;rw[hk1];simp[tyL,f1064,t2,t3,hj0,hjn,jJ,aW,i0,j0,i1,hs,sA,gi,si,hpos,hq0,hw1,hq1,hrl,hcast]
  ·rw[Qa0 (by simpa using l0),Qb2 hi0];exact h0
  ·rw[Qa0 (by simpa using ls),Qb2 his];exact hs
  ·rw[Qa0 (by simpa using li),Qd1 li,hfin]
end
section
variable {α:Type} {e:α->W}
theorem WL (kk:Int)(ps:List Int)(x:Ar α)(b:Bool)(h:Ca E1 1104 [.d (aU kk ps),.d (e x.x).d] (dB b,none))(r0:Nat) :
  ∃ N,∀ B:List ah,B[r0]?=some (aR kk ps)->∀ m,CL E1 (N+m) 1103 [.d (x.d e),.r (.old r0) 0] B=some (dB b,none):=by
 obtain⟨N,t⟩:=h.get;refine⟨N+100,fun B hB m => ?_⟩;have l0:r0<B.length:=(aT hB)
 have gB:∀ X,(B++X)[r0]?=some (aR kk ps):=fun X=>by rw[Qa0 l0];exact hB
 obtain⟨s,l1,l2,c,i,u,p,q,ew,ex⟩:=x.iA e;rw[ew]at t;rw[ex];unfold aR aU wD rV at*;rw[show N+100+m=(N+m)+100 by omega,aA rfl (aO 1103 f1103:E1.fn _=_) rfl];replace t:=fun k=>dC (t 0) (show N+0<=N+m+k by omega)
 simp[f1103,t,gB]
def ixL:aF:=f1105.body.r.l.r.bl.lp
def WM (g r0:Nat)(es:List D)(B:List ah)(j:Nat)(t:FV):St :=
 {vars:=[.d (.s 11 es),.f g [] [.r (.old r0) 0],.u,.u,dI es.length,dI j,t,.u],base:=B,loc:=[],aX:=false}
theorem D6 (g r0:Nat)(aq:List (Ar α))(p:Ar α->Bool)(B:List ah)(hO:∀ n,B.map (ah.az n)=B)(hn:aq.length<=1000000)(hc:∀ a ∈ aq,∃ N,∀ m,CL E1 (N+m) g [.d (a.d e),.r (.old r0) 0] B=some (dB (p a),none)) :
  ∃ N,∀ m,CL E1 (N+m) 1105 [.d (.s 11 (aq.map (Ar.d e))),.f g [] [.r (.old r0) 0]] B=some (.d (.v (.int .i64 (match aq.findIdx? p with|some j=>(j:Int)|none=>-1))),none):=by
 have hl:(aq.map (Ar.d e)).length=aq.length:=aC;have hloop:=Ex.DV (E:=E1) (b:=ixL) aq p (fun j=>WM g r0 (aq.map (Ar.d e)) B j .u) (.exit 0,WM g r0 (aq.map (Ar.d e)) B aq.length (dB false)) (fun j=>(.ret,{vars:=(.u::.u::dI j::n_),base:=B,loc:=[],aX:=false})) aC aC
  (fun j a ha=>by
   obtain⟨N,t⟩:=hc a (Qa2 ha);have hj:j<aq.length:=(aT ha)
   have hjn:(j:Int)<(aq.length:Int):=ae;have hj0:(0:Int)<=(j:Int):=ae;have aW:ak .i64 ((j:Int)+1)=(j:Int)+1:=wrap_i64 ae;have hk1:((j+1:Nat):Int)=(j:Int)+1:=ae;have e1:(aq.map (Ar.d e))[j]?=some (a.d e):=by simp[ha]
   obtain⟨s,l1,l2,c,i,u,q,ps,_,ex⟩:=a.iA e;rw[ex]at t e1;unfold rV at*;generalize aq.map (Ar.d e)=es at*;have i0:=idx e1;generalize p a=pa at*;refine Ex.of (n:=N+100) ?_;have jJ:j<es.length:=(aT e1)
   have hjl:(j:Int)<(es.length:Int):=ae;unfold WM;cases pa
   ·rw[if_neg aC,hk1];simp[ixL,f1105,t,hj0,hjn,jJ,hjl,aW,e1,i0,hO,FV.az,FV.aP]
   ·rw[if_pos rfl];simp[ixL,f1105,t,hj0,hjn,jJ,hjl,e1,i0,hO,FV.az,FV.aP])
  (by
   apply e6;unfold WM;generalize aq.map (Ar.d e)=es at*;rw[<-hl];generalize es.length=n at*;simp[ixL,f1105])
 have h0:Ex E1 f1105.body.l (WM g r0 (aq.map (Ar.d e)) B 0 .u |> fun s=>{s with vars:=(.d (.s 11 (aq.map (Ar.d e)))::.f g [] [.r (.old r0) 0]::uV)}) (.norm,WM g r0 (aq.map (Ar.d e)) B 0 .u |> fun s=>{s with vars:=(.d (.s 11 (aq.map (Ar.d e)))::.f g [] [.r (.old r0) 0]::uV)}):=by
  apply e6;unfold WM;simp[f1105]
 have h1 := nx h0 f1105.body.r.l.l (WM g r0 (aq.map (Ar.d e)) B 0 .u) (by
  apply e6;unfold WM;simp[f1105])
 cases hf:aq.findIdx? p with
 | some j =>
  rw[hf]at hloop;exact qN (E:=E1) (g:=1105) (F:=f1105) (B:=B) rfl (k1105:E1.fn _=_) rfl (Ex.seq h0 (Ex.gp (Ex.seq h1 (Ex.dR hloop)))) aC (by simp[finish,mo,GY,show f1105.res=[.var 2] from rfl,show f1105.ref=false from rfl,gN,leaves,fD,oneOf,kJ,D.norm,FV.rows,FV.om,aK])
 | none =>
  rw[hf]at hloop;have h2:Ex E1 f1105.body.r.r (WM g r0 (aq.map (Ar.d e)) B aq.length (dB false)) (.ret,{vars:=(.u::.u::dI (-1)::n_),base:=B,loc:=[],aX:=false}):=by
   apply e6;unfold WM;simp[f1105]
  exact qN (E:=E1) (g:=1105) (F:=f1105) (B:=B) rfl (k1105:E1.fn _=_) rfl (Ex.seq h0 (Ex.seq (Ex.seq h1 (Ex.block hloop)) h2)) aC (by simp[finish,mo,GY,show f1105.res=[.var 2] from rfl,show f1105.ref=false from rfl,gN,leaves,fD,oneOf,kJ,D.norm,FV.rows,FV.om,aK])
end
section
variable {α:Type} {e:α->W}
def arZ:D:=rV 0 0 0 false [] [] 0 false 0 [] []
def deL:aF:=f1102.body.r.r.r.l.r.bl.lp
def TI (o av r0 n:Nat)(B:List ah)(R:List D)(J:List ah)(i j:Nat)(t:FV)(dt:Bool):St :=
 {vars:=[.ls (.old o) av 11 0 n,.f 1103 [] [.r (.old r0) 0],.u,dI i,dI j,.u,.u,t,.u],base:=B.set o (.row av 11 R),loc:=J,aX:=dt}
theorem WN (o av r0 n:Nat)(kk:Int)(ps:List Int)(B:List ah)(hO:iT B)(ho:o<B.length)(hor:o≠r0)(hB:B[r0]?=some (aR kk ps))(R:List (Ar α))(J:List ah)(hJ:iT J)(i j:Nat)(dt:Bool)(x:Ar α)(b:Bool)
  (hR:R.length=n) (hn:n<=1000000) (hx:R[j]?=some x) (hij:i<j) (hz:Ca E1 1104 [.d (aU kk ps),.d (e x.x).d] (dB b,none)) :
  ∃ J' EU,iT J'/\Ex E1 deL (TI o av r0 n B (R.map (Ar.d e)) J i j .u dt) (.norm,TI o av r0 n B (if b then R.map (Ar.d e) else(R.set i x).map (Ar.d e)) J' (if b then i else i+1) (j+1) .u EU):=by
 obtain⟨N,tz⟩:=WL kk ps x b hz r0;have hj:j<R.length:=(aT hx)
 obtain⟨y,hy⟩:∃ y,R[i]?=some y:=⟨_,Qa1 ae⟩
 have hjn:(j:Int)<(n:Int):=ae;have hj0:(0:Int)<=(j:Int):=ae;have hin:(i:Int)<(n:Int):=ae;have hi0:(0:Int)<=(i:Int):=ae;have aW:ak .i64 ((j:Int)+1)=(j:Int)+1:=wrap_i64 ae;have ahI:ak .i64 ((i:Int)+1)=(i:Int)+1:=wrap_i64 ae;have hk1:((j+1:Nat):Int)=(j:Int)+1:=ae;have hk2:((i+1:Nat):Int)=(i:Int)+1:=ae;have e1:(R.map (Ar.d e))[j]?=some (x.d e):=by simp[hx]
 have e2:(R.map (Ar.d e))[i]?=some (y.d e):=by simp[hy]
 have e3:(R.set i x).map (Ar.d e)=(R.map (Ar.d e)).set i (x.d e):=by rw[Q51]
 have t:∀ X m,CL E1 (N+m) 1103 [.d (x.d e),.r (.old r0) 0] (B.set o (.row av 11 (R.map (Ar.d e)))++X)=some (dB b,none):=fun X m =>
  tz _ (by rw[Qa0 (by rw[Xg0];exact(aT hB)),Qb2 hor];exact hB) m
 have hO1:∀ m,(B.set o (.row av 11 (R.map (Ar.d e)))).map (ah.az m)=B.set o (.row av 11 (R.map (Ar.d e))):=fun m=>by rw[Q51,hO];rfl
 have hset:∀ r,(B.set o (.row av 11 (R.map (Ar.d e)))).set o r=B.set o r:=fun r=>List.set_set ..
 have hg:∀ X,(B.set o (.row av 11 (R.map (Ar.d e)))++X)[o]?=some (.row av 11 (R.map (Ar.d e))):=fun X=>by rw[Qa0 (by simpa using ho)];exact Qd1 ho
 have hol:o<(B.set o (.row av 11 (R.map (Ar.d e)))).length:=by simpa using ho
 have sA:∀ c c':ah,(J++[c]).set J.length c'=J++[c']:=fun c c'=>by simp
 have hJ2:iT (J++[.box ((x.d e).cells.map .d)]):=by
  intro m;rw[Qn0,hJ];simp[ah.az,fI,FV.az,Xp0]
 refine⟨J++[.box ((x.d e).cells.map .d)],if b then dt else true,hJ2,?_⟩;obtain⟨s,l1,l2,c,b',u,p,q,_,ex⟩:=x.iA e;obtain⟨s2,m1,m2,c2,b2,u2,p2,q2,_,ey⟩:=y.iA e;rw[e3];simp only[ex,ey]at t e1 e2 ⊢;clear ex ey hx hy hz tz hJ2 e3;unfold rV at*;have hjd:(R.map (Ar.d e)).length=n:=by simpa using hR
 generalize R.map (Ar.d e)=es at*;have i0:=idx e1;have i1:=idx e2;have jJ:j<es.length:=(aT e1)
 have hie:i<es.length:=(aT e2)
 unfold TI;have i2:=fun X=>idx (hg X)
 refine Ex.of (n:=N+200) ?_;have hl1:¬ B.length<=o:=ae;cases b
 ·simp only[Qh1,if_false];rw[hk1,hk2];simp[deL,f1102,t,hj0,hjn,hi0,hin,jJ,hie,aW,ahI,i0,i1,hg,hO1,ho,sA,hset,FV.az,FV.aP,ah.az]
 ·simp only[if_true];rw[hk1];simp[deL,f1102,t,hj0,hjn,jJ,aW,i0,hg,hO1,sA,FV.az,FV.aP,ah.az]
theorem aa5 (o av r0 n:Nat)(B:List ah)(R:List D)(J:List ah)(i:Nat)(dt:Bool):Ex E1 deL (TI o av r0 n B R J i n .u dt) (.exit 0,TI o av r0 n B R J i n (dB false) dt):=by
 apply e6;unfold TI;simp[deL,f1102]
theorem Ib (o av r0:Nat)(kk:Int)(ps:List Int)(B:List ah)(hO:iT B)(ho:o<B.length)(hor:o≠r0)(hB:B[r0]?=some (aR kk ps))(aq:List (Ar α))(hn:aq.length<=1000000)(dS:α->Bool)
  (hz:∀ a ∈ aq,Ca E1 1104 [.d (aU kk ps),.d (e a.x).d] (dB (dS a.x),none)) :
  ∀ (d j i:Nat) (R:List (Ar α)) (J:List ah) (dt:Bool),j+d=aq.length->i<j->R.length=aq.length->R.take i=(aq.take j).filter (fun a => !dS a.x)->R.drop j=aq.drop j->iT J ->
   ∃ (R':List (Ar α)) (J':List ah) (i':Nat) (EU:Bool),Ex E1 (.loop deL) (TI o av r0 aq.length B (R.map (Ar.d e)) J i j .u dt) (.exit 0,TI o av r0 aq.length B (R'.map (Ar.d e)) J' i' aq.length (dB false) EU) /\
    R'.length=aq.length/\R'.take i'=aq.filter (fun a => !dS a.x)/\i'<aq.length/\iT J'
 | 0,j,i,R,J,dt,hj,hij,hR,ht,_,hJ=>by
  obtain rfl:j=aq.length:=ae;rw[Qk0]at ht;exact⟨R,J,i,dt,Ex.leave (aa5 ..) aC,hR,ht,hij,hJ⟩
 | d+1,j,i,R,J,dt,hj,hij,hR,ht,hd,hJ=>by
  have hlt:j<aq.length:=ae;have hxa:aq[j]?=some aq[j]:=Qa1 hlt;have hx:R[j]?=some aq[j]:=by
   have:(R.drop j)[0]?=(aq.drop j)[0]?:=by rw[hd]
   rw[Qx2,Qx2,Q52,hxa]at this;exact this
  obtain⟨J',EU,hJ',hr⟩:=WN o av r0 aq.length kk ps B hO ho hor hB R J hJ i j dt aq[j] (dS aq[j].x) hR hn hx hij (hz _ (Qi0 hlt));have hf:(aq.take (j+1)).filter (fun a => !dS a.x)=(aq.take j).filter (fun a => !dS a.x)++(if dS aq[j].x then [] else [aq[j]]):=by
   rw[Qp2 hlt,X61];cases h:dS aq[j].x<;>simp[h]
  have hd2:R.drop (j+1)=aq.drop (j+1):=by
   have:=congrArg (List.drop 1) hd
   rwa [Xq1,Xq1]at this
  cases hb:dS aq[j].x with
  | true =>
   rw[hb]at hr hf;simp only[if_true]at hr hf;obtain⟨R',J2,i',dt2,h1,h2⟩:=Ib o av r0 kk ps B hO ho hor hB aq hn dS hz d (j+1) i R J' EU ae ae hR (by rw[hf,Q10];exact ht) hd2 hJ';exact⟨R',J2,i',dt2,hr.next h1,h2⟩
  | false =>
   rw[hb]at hr hf;simp only[Qh1,if_false]at hr hf;obtain⟨R',J2,i',dt2,h1,h2⟩:=Ib o av r0 kk ps B hO ho hor hB aq hn dS hz d (j+1) (i+1) (R.set i aq[j]) J' EU ae ae (by simpa using hR) (by
     rw[hf,<-ht,Qp2 (by simp;omega)];simp[List.take_set_of_le]) (by rw[List.drop_set_of_lt ae];exact hd2) hJ'
   exact⟨R',J2,i',dt2,hr.next h1,h2⟩
def deleted (e:α->W)(o av:Nat)(B:List ah)(aq:List (Ar α))(r:FV × Option (List ah)):Prop :=
 ∃ row J,r=(.ls (.old o) av 11 0 aq.length,some (B.set o (.row av 11 row)++J))/\row.take aq.length=aq.map (Ar.d e)/\aq.length<=row.length
theorem RN (o av r0:Nat)(kk:Int)(ps:List Int)(B:List ah)(hO:iT B)(hor:o≠r0)(hB:B[r0]?=some (aR kk ps))(aq:List (Ar α))(hn:aq.length<=1000000)(dS:α->Bool)
  (hBo:B[o]?=some (.row av 11 (aq.map (Ar.d e)))) (hz:∀ a ∈ aq,Ca E1 1104 [.d (aU kk ps),.d (e a.x).d] (dB (dS a.x),none)) :
  ∃ r N,(∀ m,CL E1 (N+m) 1102 [.ls (.old o) av 11 0 aq.length,.f 1103 [] [.r (.old r0) 0]] B=some r)/\deleted e o av B (aq.filter fun a => !dS a.x) r:=by
 have ho:o<B.length:=(aT hBo)
 have hself:B.set o (.row av 11 (aq.map (Ar.d e)))=B:=by
  obtain⟨h,e'⟩:=Qy1.1 hBo;rw[<-e',X12]
 have hOf:iT (B.set o (.h_ av 11 (aq.map (Ar.d e)))):=fun n=>by rw[Q51,hO];rfl
 obtain⟨N1,t1⟩:=D6 (e:=e) 1103 r0 aq (fun a=>dS a.x) (B.set o (.h_ av 11 (aq.map (Ar.d e)))) hOf hn (fun a ha=>by
  obtain⟨N,t⟩:=WL kk ps a _ (hz a ha) r0;exact⟨N,t _ (by rw[Qb2 hor];exact hB)⟩)
 have hset:∀ r,(B.set o (.row av 11 (aq.map (Ar.d e)))).set o r=B.set o r:=fun r=>List.set_set ..
 have vw:(ah.row av 11 (aq.map (Ar.d e))).view av 11 0 aq.length=some (aq.map (Ar.d e)):=by
  have:List.take aq.length (aq.map (Ar.d e))=aq.map (Ar.d e):=Qe1 aC;simp[ah.view,this]
 cases hf:aq.findIdx? (fun a=>dS a.x) with
 | none =>
  have hall:aq.filter (fun a => !dS a.x)=aq:=by
   rw[X51];intro a ha;have:=Xj1.1 hf a ha;simpa using this
  rw[hf]at t1;rw[hall];refine⟨_,N1+200,fun m => ?_,⟨aq.map (Ar.d e),[],rfl,Qe1 aC,aC⟩⟩;rw[show N1+200+m=(N1+m)+200 by omega,aA rfl (k1102:E1.fn _=_) rfl];replace t1:=fun k=>dC (t1 0) (show N1+0<=N1+m+k by omega)
  rw[hself];have i0:=idx hBo;have hO':∀ n,List.map (ah.az n) B=B:=hO;generalize aq.map (Ar.d e)=es,aq.length=n at*;simp[f1102,t1,i0,ho,hO',vw,ah.az,FV.az,FV.aP]
 | some i =>
  rw[Qu2]at hf;obtain⟨hi,hiz,hib⟩:=hf;have hf:aq.findIdx? (fun a=>dS a.x)=some i:=by
   rw[Qu2];exact⟨hi,hiz,hib⟩
  rw[hf]at t1;have htk:aq.take i=(aq.take (i+1)).filter (fun a => !dS a.x):=by
   rw[Qp2 hi,X61];have h1:(aq.take i).filter (fun a => !dS a.x)=aq.take i:=by
    rw[X51];intro a ha;obtain⟨j,hj⟩:=Xi1.1 ha;rw[Qp0]at hj;split at hj
    ·rename_i hji;have:=hib j hji;rw[Qa1 ae]at hj;cases hj;simpa using this
    ·cases hj
   rw[h1];simp[hiz]
  obtain⟨R',J',i',EU,h1,h2,h3,h4,h5⟩:=Ib o av r0 kk ps B hO ho hor hB aq hn dS hz (aq.length-(i+1)) (i+1) i aq [] false ae ae rfl htk rfl (fun _=>rfl);have hO':∀ n,List.map (ah.az n) B=B:=hO;have i0:=idx hBo;have sA:Ex E1 f1102.body.l {vars:=(.ls (.old o) av 11 0 aq.length::.f 1103 [] [.r (.old r0) 0]::rX),base:=B,loc:=[],aX:=false}
    (.norm,{vars:=(.ls (.old o) av 11 0 aq.length::.f 1103 [] [.r (.old r0) 0]::rX),base:=B,loc:=[],aX:=false}):=by
   apply e6;simp[f1102]
  have sB := nx sA f1102.body.r.l {vars:=(.ls (.old o) av 11 0 aq.length::.f 1103 [] [.r (.old r0) 0]::.u::dI i::n_),base:=B,loc:=[],aX:=false} (by
   refine Ex.of (n:=N1+60) ?_;clear sA h1 hf htk hib hiz hz;generalize aq.map (Ar.d e)=es,aq.length=n at*;simp[f1102,t1,i0,ho,hO',vw,ah.az,FV.az,FV.aP])
  have hneg:((i:Int)==-1)=false:=by
   rw[beq_eq_false_iff_ne];omega
  have hw:ak .i64 ((i:Int)+1)=(i:Int)+1:=wrap_i64 ae;have sC := nx sB f1102.body.r.r.l {vars:=[.ls (.old o) av 11 0 aq.length,.f 1103 [] [.r (.old r0) 0],.u,dI i,.u,.u,dB false,.u,.u],base:=B,loc:=[],aX:=false} (by
   apply e6;simp[f1102,hneg])
  have sD := nx sC f1102.body.r.r.r.l.l (TI o av r0 aq.length B (aq.map (Ar.d e)) [] i (i+1) .u false) (by
   have hk:((i+1:Nat):Int)=(i:Int)+1:=ae;apply e6;unfold TI;rw[hself,hk];simp[f1102,hw])
  have hRl:(R'.map (Ar.d e)).length=aq.length:=by simpa using h2
  have hsub:aq.length-i'≠0:=ae;have hadd:i'+(aq.length-i')=aq.length:=ae;have hi0:(0:Int)<=(i':Int):=ae;have hin:(i':Int)<=(aq.length:Int):=ae;have hol:o<(B.set o (.row av 11 (R'.map (Ar.d e)))).length:=by simpa using ho
  have hg:∀ X,(B.set o (.row av 11 (R'.map (Ar.d e)))++X)[o]?=some (.row av 11 (R'.map (Ar.d e))):=fun X=>by rw[Qa0 hol];exact Qd1 ho
  have ig:=fun X=>idx (hg X)
  have hdr:List.drop aq.length (R'.map (Ar.d e))=[]:=Xn0 ae;have hl1:¬ B.length<=o:=ae;have sE:Ex E1 f1102.body.r.r.r.r.l (TI o av r0 aq.length B (R'.map (Ar.d e)) J' i' aq.length (dB false) EU)
    (.norm,{vars:=(.ls (.old o) av 11 0 aq.length::.u::.u::dI i'::n_),base:=B.set o (.row av 11 (List.take i' (R'.map (Ar.d e))++List.replicate (aq.length-i') arZ)),loc:=J',aX:=true}):=by
   apply e6;unfold TI arZ rV;clear sA sB sC sD h1 hf htk hib hiz hz t1 h3 h5;generalize R'.map (Ar.d e)=es,aq.length=n at*;simp[f1102,kL,G5,hsub,hadd,hi0,hin,hg,ho,hRl,hdr]
  have hfin:(aq.filter fun a => !dS a.x).length=i':=by
   rw[<-h3,Qq0];omega
  have sF:Ex E1 f1102.body.r.r.r.r.r {vars:=(.ls (.old o) av 11 0 aq.length::.u::.u::dI i'::n_),base:=B.set o (.row av 11 (List.take i' (R'.map (Ar.d e))++List.replicate (aq.length-i') arZ)),loc:=J',aX:=true}
    (.ret,{vars:=(.u::.u::.ls (.old o) av 11 0 i'::uV),base:=B.set o (.row av 11 (List.take i' (R'.map (Ar.d e))++List.replicate (aq.length-i') arZ)),loc:=J',aX:=true}):=by
   apply e6;clear sA sB sC sD sE h1 hf htk hib hiz hz t1 h3 h5 hg ig;generalize List.take i' (R'.map (Ar.d e))++List.replicate (aq.length-i') arZ=es at*;generalize aq.length=n at*;simp[f1102,kL,G5,hi0,hin]
  have hlt:(List.take i' (R'.map (Ar.d e))++List.replicate (aq.length-i') arZ).length=aq.length:=by simp;omega
  obtain⟨N,hN⟩:=qN (E:=E1) (g:=1102) (F:=f1102) (args:=[.ls (.old o) av 11 0 aq.length,.f 1103 [] [.r (.old r0) 0]]) (B:=B) (o:=.ret)
   (r:=(.ls (.old o) av 11 0 i',some (B.set o (.row av 11 (List.take i' (R'.map (Ar.d e))++List.replicate (aq.length-i') arZ))++J'))) rfl (k1102:E1.fn _=_) rfl
   (sA.seq (sB.seq (sC.seq (Ex.seq (sD.seq (Ex.block h1)) (sE.seq sF))))) aC (by
    have e1:∀ k,List.map (ah.az k) J'=J':=h5;simp[finish,mo,GY,show f1102.res=[.var 2] from rfl,show f1102.ref=true from rfl,fD,oneOf,kJ,FV.az,Q51,hO',e1,ah.az])
  refine⟨_,N,hN,⟨_,J',by rw[hfin],?_,by rw[hfin,hlt];omega⟩⟩;rw[hfin,List.take_append_of_le_length (by simp;omega),List.take_take,Nat.min_self,<-List.map_take,h3]
end
section
variable {α:Type} {e:α->W} {pl:α->α->α} {z:W} {dS:α->Bool} {G:Nat->α->Prop} {m:Nat} {kk:Int} {ps:List Int}
theorem TH.le (hW:TH kk ps e pl z dS G m){x:α}{n k:Nat}(h:G n x)(hk:n<=k):G k x:=by
 induction k with
 | zero => obtain rfl : n = 0 :=ae
           exact h
 | succ k ih =>
  rcases Q71 hk with rfl|h2
  ·exact h
  ·exact hW.mono _ _ (ih ae)
theorem aa6 (hW:TH kk ps e pl z dS G m)(l:List (Ar α))(hl:l.length<=1000000)(hm:l.length<=m)(hg:∀ a ∈ l,G 1 a.x)(s:Nat)(L:List ah)(hJ:iT L)(h0:L[0]?=some (aR kk ps))(hs:L[s]?=some (.row 1 11 (l.map (Ar.d e)))) :
  ∃ out L',Ex E1 (.loop tyL) (KM s l.length 0 (.d (.n 11)) .u L false) (.exit 0,KM s l.length l.length out (dB false) L' false)/\L'[0]?=some (aR kk ps)/\iT L'/\kS e s out L' (mg pl l)/\(∀ a ∈ mg pl l,G (l.length+1) a.x)/\(mg pl l).length<=l.length:=by
 obtain⟨r,h1,out,L',h2,h3,h4,h5,h6,h7⟩:=Ex.fold (E:=E1) (b:=tyL) l (kR pl) []
  (fun j acc st=>∃ out L,st=KM s l.length j out .u L false/\L[0]?=some (aR kk ps)/\L[s]?=some (.row 1 11 (l.map (Ar.d e)))/\iT L/\kS e s out L acc/\(∀ a ∈ acc,G j a.x)/\acc.length<=j)
  (fun acc r=>∃ out L,r=(.exit 0,KM s l.length l.length out (dB false) L false)/\L[0]?=some (aR kk ps)/\iT L/\kS e s out L acc/\(∀ a ∈ acc,G l.length a.x)/\acc.length<=l.length)
  (fun j x st hx ⟨out,L,hst,g0,gs,gJ,g1,g2,g3⟩=>by
   subst hst;have hj:j<l.length:=(aT hx)
   have hgx:=hg x (Qa2 hx);generalize hacc:(l.take j).foldl (kR pl) []=acc at*;have hq:∀ y ∈ kR pl acc x,G (j+1) y.x:=NC pl x (fun a=>G j a.x) (fun a=>G (j+1) a.x) (hW.le hgx ae) (fun y h=>hW.mono _ _ h) (fun y h=>hW.pg _ _ _ ae h hgx) acc g2;have hlen:=ND pl x acc
   by_cases hy:∃ q y,acc=q++[y]/\nJ y x
   ·obtain⟨q,y,rfl,he⟩:=hy;have e1:kR pl (q++[y]) x=q++[jg pl y x]:=by rw[lT,if_pos he]
    rw[e1]at hq hlen ⊢;simp only[Qb0,Xi2]at g3;obtain⟨L',k1,k2,k3,k4,k5⟩:=aa4 kk ps s l.length j out L false q l pl x y g0 gs rfl hl hx g1 ae ((BD y x).2 he) (hW.p1 j y.x x.x ae (g2 y aC) hgx);exact⟨_,k1,out,L',rfl,k2,k3,k5 gJ,k4,hq,by simp;omega⟩
   ·have hno:∀ y,acc.getLast?=some y->¬ nJ y x:=by
     intro y h1 h2;obtain⟨q,h3⟩:=List.getLast?_eq_some_iff.1 h1;exact hy ⟨q,y,h3,h2⟩
    have e1:kR pl acc x=acc++[x]:=by
     rcases Q92 acc with rfl|⟨q,y,rfl⟩
     ·rfl
     ·rw[Q50]at*;rw[lT,if_neg (hno y aC)]
    rw[e1]at hq hlen ⊢;obtain⟨out',L',k1,k2,k3,k4,k5⟩:=aeI kk ps s l.length j out L false acc l x z g0 gs rfl hl hx g1 ae (fun y h1 h2=>hno y h1 ((BD y x).1 h2)) hW.zero (hW.pz x.x hgx);exact⟨_,k1,out',L',rfl,k2,k3,k5 gJ,k4,hq,by simp;omega⟩)
  (fun st ⟨out,L,hst,g0,gs,gJ,g1,g2,g3⟩=>by
   subst hst;refine⟨_,Ex.of (n:=60) (r:=(.exit 0,KM s l.length l.length out (dB false) L false)) ?_,aC,out,L,rfl,g0,gJ,g1,g2,g3⟩;unfold KM;generalize l.length=n at*;simp[tyL,f1064])
  (st:=KM s l.length 0 (.d (.n 11)) .u L false) ⟨_,L,rfl,h0,hs,hJ,.inl ⟨rfl,rfl⟩,aC,aC⟩
 subst h2;rw[aa1]at h5 h6 h7;exact⟨out,L',h1,h3,h4,h5,fun a ha=>hW.mono _ _ (h6 a ha),h7⟩
theorem NG (B:List ah):∃ N,∀ m,CL E1 (N+m) 1101 [.d (.s 11 []),.d (.fn 1070)] B=some (.d (.t []),none):=by
 have w1:ak .i64 1=1:=wrap_i64 ae;have h1:∀ (B:List ah) m,CL E1 (m+100) 1208 [.d (.s 11 []),dI 0,dI 0,.d (.fn 1070)] B=some (.d (.t []),none):=by
  intro B m;rw[aA rfl (k1208:E1.fn _=_) rfl];simp[f1208,aD,w1,rH,FV.aP,FV.az]
 have h2:∀ (B:List ah) m,CL E1 (m+300) 1138 [.d (.s 11 []),dI 0,.d (.fn 1070)] B=some (.d (.t []),none):=by
  intro B m;rw[aA rfl (k1138:E1.fn _=_) rfl];simp[f1138,aD,h1,rH,FV.aP,FV.az]
 refine⟨500,fun m => ?_⟩;rw[show 500+m=m+500 by omega,aA rfl (k1101:E1.fn _=_) rfl];simp[f1101,h2,rH,FV.aP,FV.az]
theorem NH (B:List ah)(hB:iT B):∃ N,∀ m,CL E1 (N+m) 1102 [.d (.n 11),.f 1103 [] [.r (.old 0) 0]] B=some (.d (.n 11),none):=by
 obtain⟨N1,t1⟩:=D6 (α:=W) (e:=id) 1103 0 [] (fun _=>false) B hB aC (fun a ha=>by cases ha);have hB':∀ n,List.map (ah.az n) B=B:=hB;refine⟨N1+200,fun m => ?_⟩;rw[show N1+200+m=(N1+m)+200 by omega,aA rfl (k1102:E1.fn _=_) rfl];replace t1:=fun k=>dC (t1 0) (show N1+0<=N1+m+k by omega)
 simp only[Qc2,List.findIdx?_nil]at t1;simp[f1102,t1,hB',FV.az,FV.aP]
end
section
variable {α:Type} {e:α->W} {pl:α->α->α} {z:W} {dS:α->Bool} {G:Nat->α->Prop} {m:Nat} {kk:Int} {ps:List Int}
theorem WO (s:Nat)(v8:FV)(n:Nat)(out:FV)(L:List ah)(aq:List (Ar α))(hJ:iT L)(h0:L[0]?=some (aR kk ps))(ho:kS e s out L aq)(hn:aq.length<=1000000)
  (hz:∀ a ∈ aq,Ca E1 1104 [.d (aU kk ps),.d (e a.x).d] (dB (dS a.x),none)) :
  ∃ st,Ex E1 f1064.body.r.r.r.r.r (st0 [.u,.u,rL 0,.u,.u,out,.u,.u,v8,dI n,dI n,dB false,.u] L) (.ret,st) /\
   finish f1064 st=some (.d (.s 11 ((aq.filter fun a => !dS a.x).map (Ar.d e))),none):=by
 have hJ0:List.map (ah.az 0) L=L:=hJ 0;rcases ho with ⟨rfl,rfl⟩|⟨i,av,_,rfl,hrow⟩
 ·obtain⟨N,t⟩:=NH L hJ;refine⟨(st0 (.u::.u::.u::.d (.n 11)::OU) L),Ex.of (n:=N+100) ?_,?_⟩
  ·simp[f1064,t,hJ0,FV.az,FV.aP]
  ·simp[show f1064.res=[.var 3] from rfl,show f1064.ref=false from rfl]
 ·have hi0:i≠0:=fun h=>by subst h;rw[h0]at hrow;cases hrow
  obtain⟨r,N,t,row,J,rfl,h1,h2⟩:=RN i av 0 kk ps L hJ hi0 h0 aq hn dS hrow hz;have hi:i<L.length:=(aT hrow)
  generalize hk:aq.filter (fun a => !dS a.x)=ks at*;have hg:(L.set i (.row av 11 row)++J)[i]?=some (.row av 11 row):=by
   rw[Qa0 (by simpa using hi)];exact Qd1 hi
  generalize L.set i (.row av 11 row)++J=L2 at*;refine⟨(st0 (.u::.u::.u::.ls (.loc i) av 11 0 ks.length::OU) L2),Ex.of (n:=N+100) ?_,?_⟩
  ·generalize aq.length=n2,ks.length=n3 at*;simp[f1064,t,hJ0,FV.az,FV.aP]
  ·have h9:ah.view av 11 0 ks.length (.row av 11 row)=some (ks.map (Ar.d e)):=by
    have h2':0+ks.length<=row.length:=ae;simp only[ah.view,h2',and_self,if_true,Xv2,h1]
   simp[show f1064.res=[.var 3] from rfl,show f1064.ref=false from rfl,hg,h9]
theorem aa7 (hW:TH kk ps e pl z dS G m)(l:List (Ar α))(hl:l.length<20)(hm:l.length<m)(hg:∀ a ∈ l,G 1 a.x) :
  Ca E1 1064 [.d (aU kk ps),.d (.s 11 (l.map (Ar.d e)))] (.d (.s 11 (((dF pl l).filter fun a => !dS a.x).map (Ar.d e))),none):=by
 have sA:Ex E1 f1064.body.l (st0 (.d (aU kk ps)::.d (.s 11 (l.map (Ar.d e)))::GX) [])
   (.norm,(st0 (.u::.d (.s 11 (l.map (Ar.d e)))::rL 0::rT) [aR kk ps])):=by
  apply e6;unfold aU aR;simp[f1064]
 have hrg:∀ n,ah.az n (aR kk ps)=aR kk ps:=mM [vI kk,.s 1 (LK .i64 ps)];cases hl0:l with
 | nil =>
  obtain⟨N,t⟩:=NG [aR kk ps];have tc:∀ k,CL E1 k 1100 [.d (.s 11 [])] [aR kk ps]=some (.d (.s 11 []),none):=fun k=>by
   rw[sQ (p:=r_ 11) rfl (acC:E1.fn _=_) rfl];rfl
  obtain⟨st,h7,h8⟩:=WO (e:=e) (dS:=dS) 0 (.d (.s 11 [])) 0 (.d (.n 11)) [aR kk ps] [] (iT.one hrg) rfl (.inl ⟨rfl,rfl⟩) aC aC;rw[hl0]at sA;have sB:Ex E1 (.seq f1064.body.r.l (.seq f1064.body.r.r.l (.seq f1064.body.r.r.r.l (.seq f1064.body.r.r.r.r.l f1064.body.r.r.r.r.r)))) (st0 (.u::.d (.s 11 [])::rL 0::rT) [aR kk ps]) (.ret,st):=by
   refine Ex.seq (st1:=(st0 (.u::.u::rL 0::.u::.d (.s 11 [])::zW) [aR kk ps])) ?_ (Ex.seq (st1:=(st0 (.u::.u::rL 0::.u::.d (.s 11 [])::zW) [aR kk ps])) ?_ (Ex.seq (st1:=(st0 (.u::.u::rL 0::.u::.d (.s 11 [])::.d (.n 11)::rX) [aR kk ps])) ?_ (Ex.seq ?_ h7)))
   ·apply e6;generalize aR kk ps=rb at*;simp[f1064,tc,hrg,FV.az,FV.aP]
   ·refine Ex.of (n:=N+60) ?_;generalize aR kk ps=rb at*;simp[f1064,t,hrg,FV.az,FV.aP]
   ·apply e6;simp[f1064]
   ·apply e6;simp[f1064,aD]
  exact Ca.body (o:=.ret) rfl (k1064:E1.fn _=_) rfl (sA.seq sB) aC h8
 | cons a0 l0 =>
  rw[<-hl0];have hne:0<l.length:=by rw[hl0];simp
  clear hl0;have hel:(l.map (Ar.d e)).length=l.length:=aC;have tc:∀ k,CL E1 k 1100 [.d (.s 11 (l.map (Ar.d e)))] [aR kk ps]=some (.ls (.old 1) 1 11 0 l.length,some [aR kk ps,.row 1 11 (l.map (Ar.d e))]):=fun k=>by
   rw[sQ (p:=r_ 11) rfl (acC:E1.fn _=_) rfl];have hle:(l.map (Ar.d e)).length<=1000000:=ae;cases hm:l.map (Ar.d e) with
   | nil=>rw[hm]at hel;simp at hel;omega
   | cons d ds =>
    rw[hm]at hel hle;have hl2:l.length<=1000000:=ae;simp only[r_,hel,hl2,and_self,if_true];simp[hrg]
  obtain⟨r,N,t0,hr⟩:=RI 1 1 [aR kk ps,.row 1 11 (l.map (Ar.d e))] l rfl (fun n=>by simp only[Qe2,Qc2,hrg,oC]) hl;have t:∀ k,CL E1 (N+k) 1101 [.ls (.old 1) 1 11 0 l.length,.d (.fn 1070)] [aR kk ps,.row 1 11 (l.map (Ar.d e))]=some r:=fun k=>by
   have:=t0 k;rw[jS]at this ⊢;exact sU vY (xB vY _) this
  obtain⟨out,L,h1,h2,h3,h4,h5,h6⟩:=aa6 hW (bC l) (by rw[lS];omega) (by rw[lS];omega) (fun a ha=>hg a (KL ha)) 1 [aR kk ps,.row 1 11 ((bC l).map (Ar.d e))] (fun n=>by simp only[Qe2,Qc2,hrg,oC]) rfl rfl;rw[lS]at h1 h5 h6;rw[aa0]at h4 h5 h6;obtain⟨st,h7,h8⟩:=WO (dS:=dS) 1 (.ls (.loc 1) 1 11 0 l.length) l.length out L (dF pl l) h3 h2 h4 ae (fun a ha=>hW.z1 _ _ ae (h5 a ha));have sB := nx sA f1064.body.r.l (st0 (.u::.u::rL 0::.u::.ls (.loc 1) 1 11 0 l.length::zW) [aR kk ps,.row 1 11 (l.map (Ar.d e))]) (by
   apply e6;clear h1 h7 h8 h4 sA hel;generalize l.map (Ar.d e)=es,l.length=n,aR kk ps=rb at*;simp[f1064,tc,hrg,FV.az,FV.aP])
  have sC := nx sB f1064.body.r.r.l (st0 (.u::.u::rL 0::.u::.ls (.loc 1) 1 11 0 l.length::zW) [aR kk ps,.row 1 11 ((bC l).map (Ar.d e))]) (by
   refine Ex.of (n:=N+60) ?_;clear h1 h7 h8 h4 sA sB hel;rcases hr with ⟨rfl,hs⟩|rfl
   ·rw[hs];clear hs;generalize l.map (Ar.d e)=es,l.length=n,aR kk ps=rb at*;simp[f1064,t,hrg,oC,FV.az,FV.aP]
   ·generalize l.map (Ar.d e)=es at*;generalize (bC l).map (Ar.d e)=es2,l.length=n,aR kk ps=rb at*;simp[f1064,t,hrg,oC,FV.az,FV.aP])
  have sD := nx sC f1064.body.r.r.r.l (st0 (.u::.u::rL 0::.u::.ls (.loc 1) 1 11 0 l.length::.d (.n 11)::rX) [aR kk ps,.row 1 11 ((bC l).map (Ar.d e))]) (by
   apply e6;generalize l.length=n at*;simp[f1064])
  have sE := nx sD f1064.body.r.r.r.r.l.l (KM 1 l.length 0 (.d (.n 11)) .u [aR kk ps,.row 1 11 ((bC l).map (Ar.d e))] false) (by
   apply e6;unfold KM;generalize l.length=n at*;simp[f1064])
  exact Ca.body (o:=.ret) rfl (k1064:E1.fn _=_) rfl (sA.seq (sB.seq (sC.seq (sD.seq (Ex.seq (sE.seq (Ex.block h1)) h7))))) aC h8
end
end Fi.S
