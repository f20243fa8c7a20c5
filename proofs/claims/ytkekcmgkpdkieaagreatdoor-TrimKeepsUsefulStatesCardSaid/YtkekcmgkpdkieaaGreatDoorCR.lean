import Derived.Test.YtkekcmgkpdkieaaGreatDoorCQ
set_option linter.unusedVariables false
set_option linter.unusedSimpArgs false
noncomputable section
namespace Fi.S
open Go Fi
set_option maxHeartbeats 8000000
section
variable {α:Type} {e:α->W}
def jU (e:α->W)(s:Nat)(out:FV)(L:List ai)(aq:List (Ar α)):Prop:=(out=.d (.n 11)/\aq=[])\/∃ i az,i≠s/\out=.ls (.loc i) az 11 0 aq.length/\L[i]?=some (.row az 11 (aq.map (Ar.d e)))
def fA (J:List ai):Prop:=∀ n,J.map (ai.aA n)=J
theorem fA.add {J X:List ai}(h:fA J)(hx:fA X):fA (J++X):=fun n=>by rw[Qr0,h,hx]
theorem fA.put {J:List ai}(h:fA J)(i:Nat){r:ai}(hr:∀ n,ai.aA n r=r):fA (J.set i r):=fun n=>by rw[Q41,h,hr]
theorem fA.one {r:ai}(hr:∀ n,ai.aA n r=r):fA [r]:=fun n=>by simp[hr]
theorem m_ (az sz:Nat)(es:List D)(n:Nat):ai.aA n (.row az sz es)=.row az sz es:=rfl
theorem ku (cs:List D)(n:Nat):ai.aA n (.box (cs.map .d))=.box (cs.map .d):=by simp[ai.aA,d_,FV.aA,Xo0]
def aK (kk:Int)(ps:List Int):ai:=.box [dI kk,.d (.s 1 (LK .i64 ps))]
def X6:aF:=f1064.body.r.r.r.r.l.r.bl.lp
def Iy (s n j:Nat)(out t:FV)(L:List ai)(dt:Bool):St :=
 {vars:=[.u,.u,rL 0,.u,.u,out,.u,.u,.ls (.loc s) 1 11 0 n,dI n,dI j,t,.u],base:=[],loc:=L,aQ:=dt}
theorem aeZ (e:α->W)(a b:Ar α):Ca E1 1070 [.d (a.d e),.d (b.d e)] (dI (iG a b),none):=Ca.jg (Ca.bO (vW e 0 a b))
theorem abV (kk:Int)(ps:List Int)(s n j:Nat)(out:FV)(L:List ai)(dt:Bool)(aq sl:List (Ar α))(x:Ar α)(z:W)(h0:L[0]?=some (aK kk ps))(hs:L[s]?=some (.row 1 11 (sl.map (Ar.d e))))(hsl:sl.length=n)(hn:n<=1000000)
  (hx:sl[j]?=some x) (ho:jU e s out L aq) (has:aq.length<=1000000) (hno:∀ y,aq.getLast?=some y->iG y x≠0)
  (hz:Ca E1 26 [.d (bD kk ps)] (.d z.d,none)) (hp:Ca E1 14 [.d (bD kk ps),.d (e x.x).d,.d z.d] (.d (e x.x).d,none)) :
  ∃ out' L' ,Ex E1 X6 (Iy s n j out .u L dt) (.norm,Iy s n (j+1) out' .u L' dt)/\L'[0]?=some (aK kk ps)/\L'[s]?=some (.row 1 11 (sl.map (Ar.d e)))/\jU e s out' L' (aq++[x])/\(fA L->fA L'):=by
 obtain⟨N1,t1⟩:=hz.any;obtain⟨N2,t2⟩:=hp.any;have hj:j<sl.length:=(aS hx)
 have hjn:(j:Int)<(n:Int):=ae;have hj0:(0:Int)<=(j:Int):=ae;have aP:av .i64 ((j:Int)+1)=(j:Int)+1:=wrap_i64 ae;have hk1:((j+1:Nat):Int)=(j:Int)+1:=ae;have e1:(sl.map (Ar.d e))[j]?=some (x.d e):=by simp[hx]
 have l0:0<L.length:=(aS h0)
 have ls:s<L.length:=(aS hs)
 have g0:∀ X,(L++X)[0]?=some (aK kk ps):=fun X=>by rw[Qa0 l0];exact h0
 have gs:∀ X,(L++X)[s]?=some (.row 1 11 (sl.map (Ar.d e))):=fun X=>by rw[Qa0 ls];exact hs
 have sA:∀ b b':ai,(L++[b]).set L.length b'=L++[b']:=fun b b'=>by simp
 rcases ho with ⟨rfl,rfl⟩|⟨i,az,his,rfl,hrow⟩
 ·obtain⟨K,hK⟩:∃ K,K=N1+N2:=⟨_,rfl⟩
  replace t1:=t1 K ae;replace t2:=t2 K ae;obtain⟨xs,l1,l2,c,b,u,p,q,ew,ex⟩:=x.dP e;obtain⟨zs,Gn,Gp,zc,zb,zu,zp,Ic,ez⟩:=z.bq;refine⟨.ls (.loc (L.length+1)) 0 11 0 1,L++[.box ((x.d e).cells.map .d),.row 0 11 [x.d e]],?_,g0 _,gs _,.inr ⟨L.length+1,0,ae,rfl,by rw[Qb1 ae];simp⟩,fun hJ=>hJ.add (fA.add (J:=[_]) (X:=[_]) (fA.one (ku _)) (fA.one (m_ _ _ _)))⟩;simp only[ex,ez,ew]at t1 t2 e1 gs hs ⊢;clear ew ex ez hno hp hz;unfold aK bD wD mM at*;generalize LK .i64 ps=l9,sl.map (Ar.d e)=es at*;have i0:=idx e1;have j0:=fun X=>idx (g0 X)
  have js:=fun X=>idx (gs X)
  have dw:j<es.length:=(aS e1)
  refine Ex.of (n:=K+300) ?_;unfold Iy;rw[hk1];simp[X6,f1064,t1,t2,hj0,hjn,dw,aP,i0,j0,hs,sA,most]
 ·rcases Q72 aq with rfl|⟨q,y,rfl⟩
  ·-- an empty row
   obtain⟨K,hK⟩:∃ K,K=N1+N2:=⟨_,rfl⟩
   replace t1:=t1 K ae;replace t2:=t2 K ae;have hi0:i≠0:=fun h=>by subst h;rw[h0]at hrow;cases hrow
   have li:i<L.length:=(aS hrow)
   have gi:∀ X,(L++X)[i]?=some (.row az 11 []):=fun X=>by rw[Qa0 li];exact hrow
   have si:∀ X r,(L++X).set i r=L.set i r++X:=fun X r=>Qq1 _ _ li
   obtain⟨xs,l1,l2,c,b,u,p,q,ew,ex⟩:=x.dP e;obtain⟨zs,Gn,Gp,zc,zb,zu,zp,Ic,ez⟩:=z.bq;refine⟨.ls (.loc i) (az+1) 11 0 1,L.set i (.row (az+1) 11 [x.d e])++[.box ((x.d e).cells.map .d)],?_,?_,?_,.inr ⟨i,az+1,his,rfl,?_⟩,fun hJ=>(hJ.put i (m_ _ _ _)).add (fA.one (ku _))⟩
   ·simp only[ex,ez,ew]at t1 t2 e1 gs hs ⊢;clear ew ex ez hno hp hz;unfold aK bD wD mM at*;generalize LK .i64 ps=l9,sl.map (Ar.d e)=es at*;have i0:=idx e1;have j0:=fun X=>idx (g0 X)
    have js:=fun X=>idx (gs X)
    have dw:j<es.length:=(aS e1)
    refine Ex.of (n:=K+300) ?_;unfold Iy;rw[hk1];simp[X6,f1064,t1,t2,hj0,hjn,dw,aP,i0,j0,hs,sA,most,gi,si]
   ·rw[Qa0 (by simpa using l0),Qc0 hi0];exact h0
   ·rw[Qa0 (by simpa using ls),Qc0 his];exact hs
   ·rw[Qa0 (by simpa using li),Qd0 li];rfl
  ·obtain⟨N3,t3⟩:=(aeZ e y x).any;obtain⟨K,hK⟩:∃ K,K=N1+N2+N3:=⟨_,rfl⟩
   replace t1:=t1 K ae;replace t2:=t2 K ae;replace t3:=t3 K ae;have hi0:i≠0:=fun h=>by subst h;rw[h0]at hrow;cases hrow
   have li:i<L.length:=(aS hrow)
   have ae0:=hno y aC;have abW:(iG y x==0)=false:=by simpa using ae0
   simp only[Q10]at*;have hlen:(q++[y]).length=q.length+1:=aC;rw[hlen]at has;have hcast:((q.length+1:Nat):Int)=(q.length:Int)+1:=ae;have hpos:(0:Int)<(q.length:Int)+1:=ae;have hq0:(0:Int)<=(q.length:Int):=ae;have hw1:av .i64 (q.length:Int)=(q.length:Int):=wrap_i64 ae;have hq1:(q.length:Int)<(q.length:Int)+1:=ae;have ey:((q++[y]).map (Ar.d e))[q.length]?=some (y.d e):=aC;have hrl:((q++[y]).map (Ar.d e)).length=q.length+1:=aC;have gi:∀ X,(L++X)[i]?=some (.row az 11 ((q++[y]).map (Ar.d e))):=fun X=>by rw[Qa0 li];exact hrow
   have si:∀ X r,(L++X).set i r=L.set i r++X:=fun X r=>Qq1 _ _ li
   have TE:((q++[y]).map (Ar.d e)).take (q.length+1)=(q++[y]).map (Ar.d e):=Qe0 aC;have m1:(q.length+1+1)*152<=1099511627776:=ae;have m2:q.length+1+1<=1099511627776:=ae;have hfin:(q++[y]++[x]).map (Ar.d e)=(q++[y]).map (Ar.d e)++[x.d e]:=aC;have DK:(q++[y]++[x]).length=q.length+1+1:=aC;refine⟨.ls (.loc i) (az+1) 11 0 (q.length+1+1),L.set i (.row (az+1) 11 ((q++[y]).map (Ar.d e)++[x.d e]))++[.box ((x.d e).cells.map .d)],?_,?_,?_,.inr ⟨i,az+1,his,by rw[DK],?_⟩,fun hJ=>(hJ.put i (m_ _ _ _)).add (fA.one (ku _))⟩
   ·obtain⟨xs,l1,l2,c,b,u,p,ps',ew,ex⟩:=x.dP e;obtain⟨ys,yl1,yl2,yc,yb,yu,yp,yps,X7,MJ⟩:=y.dP e;obtain⟨zs,Gn,Gp,zc,zb,zu,zp,Ic,ez⟩:=z.bq;simp only[ex,ez,ew,MJ]at t1 t2 t3 e1 ey ⊢;rw[hlen];generalize iG y x=od at*;clear ew ex ez X7 MJ hno hp hz hfin DK ae0 hlen;unfold aK bD wD mM at*;generalize sl.map (Ar.d e)=es,(q++[y]).map (Ar.d e)=es2,q.length=m at*;have i0:=idx e1;have j0:=fun X=>idx (g0 X)
    have js:=fun X=>idx (gs X)
    have i1:=idx ey;have dw:j<es.length:=(aS e1)
    refine Ex.of (n:=K+300) ?_;unfold Iy;rw[hk1];simp[X6,f1064,t1,t2,t3,hj0,hjn,dw,aP,i0,j0,i1,hs,sA,most,gi,si,hpos,hq0,hw1,hq1,abW,hrl,TE,m1,m2,hcast]
   ·rw[Qa0 (by simpa using l0),Qc0 hi0];exact h0
   ·rw[Qa0 (by simpa using ls),Qc0 his];exact hs
   ·rw[Qa0 (by simpa using li),Qd0 li,hfin]
theorem X8 (kk:Int)(ps:List Int)(s n j:Nat)(out:FV)(L:List ai)(dt:Bool)(q sl:List (Ar α))(pl:α->α->α)(x y:Ar α)(h0:L[0]?=some (aK kk ps))(hs:L[s]?=some (.row 1 11 (sl.map (Ar.d e))))(hsl:sl.length=n)(hn:n<=1000000)
  (hx:sl[j]?=some x) (ho:jU e s out L (q++[y])) (has:q.length<=1000000) (heq:iG y x=0) (hp:Ca E1 14 [.d (bD kk ps),.d (e y.x).d,.d (e x.x).d] (.d (e (pl y.x x.x)).d,none)) :
  ∃ L' ,Ex E1 X6 (Iy s n j out .u L dt) (.norm,Iy s n (j+1) out .u L' dt)/\L'[0]?=some (aK kk ps)/\L'[s]?=some (.row 1 11 (sl.map (Ar.d e)))/\jU e s out L' (q++[iq pl y x])/\(fA L->fA L'):=by
 obtain⟨N2,t2⟩:=hp.any;obtain⟨N3,t3⟩:=(aeZ e y x).any;have hj:j<sl.length:=(aS hx)
 have hjn:(j:Int)<(n:Int):=ae;have hj0:(0:Int)<=(j:Int):=ae;have aP:av .i64 ((j:Int)+1)=(j:Int)+1:=wrap_i64 ae;have hk1:((j+1:Nat):Int)=(j:Int)+1:=ae;have e1:(sl.map (Ar.d e))[j]?=some (x.d e):=by simp[hx]
 have l0:0<L.length:=(aS h0)
 have ls:s<L.length:=(aS hs)
 have g0:∀ X,(L++X)[0]?=some (aK kk ps):=fun X=>by rw[Qa0 l0];exact h0
 have gs:∀ X,(L++X)[s]?=some (.row 1 11 (sl.map (Ar.d e))):=fun X=>by rw[Qa0 ls];exact hs
 have sA:∀ b b':ai,(L++[b]).set L.length b'=L++[b']:=fun b b'=>by simp
 rcases ho with ⟨_,h⟩|⟨i,az,his,rfl,hrow⟩
 ·simp at h
 ·obtain⟨K,hK⟩:∃ K,K=N2+N3:=⟨_,rfl⟩
  replace t2:=t2 K ae;replace t3:=t3 K ae;rw[heq]at t3;have hi0:i≠0:=fun h=>by subst h;rw[h0]at hrow;cases hrow
  have li:i<L.length:=(aS hrow)
  have hlen:(q++[y]).length=q.length+1:=aC;have hcast:((q.length+1:Nat):Int)=(q.length:Int)+1:=ae;have hpos:(0:Int)<(q.length:Int)+1:=ae;have hq0:(0:Int)<=(q.length:Int):=ae;have hw1:av .i64 (q.length:Int)=(q.length:Int):=wrap_i64 ae;have hq1:(q.length:Int)<(q.length:Int)+1:=ae;have ey:((q++[y]).map (Ar.d e))[q.length]?=some (y.d e):=aC;have hrl:((q++[y]).map (Ar.d e)).length=q.length+1:=aC;have gi:∀ X,(L++X)[i]?=some (.row az 11 ((q++[y]).map (Ar.d e))):=fun X=>by rw[Qa0 li];exact hrow
  have si:∀ X r,(L++X).set i r=L.set i r++X:=fun X r=>Qq1 _ _ li
  have hfin:(q++[iq pl y x]).map (Ar.d e)=((q++[y]).map (Ar.d e)).set q.length ((iq pl y x).d e):=by
   rw[Qr0,Qr0,Qv2 _ _ aC];simp
  refine⟨L.set i (.row az 11 (((q++[y]).map (Ar.d e)).set q.length ((iq pl y x).d e)))++[.box ((x.d e).cells.map .d)],?_,?_,?_,.inr ⟨i,az,his,aC,?_⟩,fun hJ=>(hJ.put i (m_ _ _ _)).add (fA.one (ku _))⟩
  ·obtain⟨xs,l1,l2,c,b,u,p,ps',ew,ex⟩:=x.dP e;obtain⟨ys,yl1,yl2,yc,yb,yu,yp,yps,X7,MJ⟩:=y.dP e;obtain⟨zs,Gn,Gp,zc,zb,zu,zp,Ic,ez,ZJ⟩:=(iq pl y x).dP e;have Tu:(e (pl y.x x.x)).d=wD zs Gn Gp zc zb zu zp Ic:=ez;simp only[ex,Tu,ew,MJ,X7,ZJ]at t2 t3 e1 ey ⊢;rw[hlen];have f1:(iq pl y x).f=y.f:=rfl;have f2:(iq pl y x).l=y.l:=rfl;have f3:(iq pl y x).t=y.t:=rfl;rw[f1,f2,f3];clear ew ex ez Tu X7 MJ ZJ hp hfin hlen f1 f2 f3 heq;unfold aK bD wD mM at*;generalize sl.map (Ar.d e)=es,(q++[y]).map (Ar.d e)=es2,q.length=m at*;have i0:=idx e1;have j0:=fun X=>idx (g0 X)
   have js:=fun X=>idx (gs X)
   have i1:=idx ey;have dw:j<es.length:=(aS e1)
   refine Ex.of (n:=K+300) ?_;unfold Iy;rw[hk1];simp[X6,f1064,t2,t3,hj0,hjn,dw,aP,i0,j0,i1,hs,sA,gi,si,hpos,hq0,hw1,hq1,hrl,hcast]
  ·rw[Qa0 (by simpa using l0),Qc0 hi0];exact h0
  ·rw[Qa0 (by simpa using ls),Qc0 his];exact hs
  ·rw[Qa0 (by simpa using li),Qd0 li,hfin]
end
section
variable {α:Type} {e:α->W}
theorem TG (kk:Int)(ps:List Int)(x:Ar α)(b:Bool)(h:Ca E1 1104 [.d (bD kk ps),.d (e x.x).d] (dB b,none))(r0:Nat) :
  ∃ N,∀ B:List ai,B[r0]?=some (aK kk ps)->∀ m,CL E1 (N+m) 1103 [.d (x.d e),.r (.old r0) 0] B=some (dB b,none):=by
 obtain⟨N,t⟩:=h.get;refine⟨N+100,fun B hB m => ?_⟩;have l0:r0<B.length:=(aS hB)
 have gB:∀ X,(B++X)[r0]?=some (aK kk ps):=fun X=>by rw[Qa0 l0];exact hB
 obtain⟨s,l1,l2,c,i,u,p,q,ew,ex⟩:=x.dP e;rw[ew]at t;rw[ex];unfold aK bD wD mM at*;rw[show N+100+m=(N+m)+100 by omega,aB rfl (aN 1103 f1103:E1.fn _=_) rfl];replace t:=fun k=>bX (t 0) (show N+0<=N+m+k by omega)
 simp[f1103,t,gB]
def ixL:aF:=f1105.body.r.l.r.bl.lp
def TH (g r0:Nat)(es:List D)(B:List ai)(j:Nat)(t:FV):St :=
 {vars:=[.d (.s 11 es),.f g [] [.r (.old r0) 0],.u,.u,dI es.length,dI j,t,.u],base:=B,loc:=[],aQ:=false}
theorem BD (g r0:Nat)(aq:List (Ar α))(p:Ar α->Bool)(B:List ai)(hO:∀ n,B.map (ai.aA n)=B)(hn:aq.length<=1000000)(hc:∀ a ∈ aq,∃ N,∀ m,CL E1 (N+m) g [.d (a.d e),.r (.old r0) 0] B=some (dB (p a),none)) :
  ∃ N,∀ m,CL E1 (N+m) 1105 [.d (.s 11 (aq.map (Ar.d e))),.f g [] [.r (.old r0) 0]] B=some (.d (.v (.int .i64 (match aq.findIdx? p with|some j=>(j:Int)|none=>-1))),none):=by
 have hl:(aq.map (Ar.d e)).length=aq.length:=aC;have hloop:=Ex.vV (E:=E1) (b:=ixL) aq p (fun j=>TH g r0 (aq.map (Ar.d e)) B j .u) (.exit 0,TH g r0 (aq.map (Ar.d e)) B aq.length (dB false)) (fun j=>(.ret,{vars:=(.u::.u::dI j::iO),base:=B,loc:=[],aQ:=false})) aC aC
  (fun j a ha=>by
   obtain⟨N,t⟩:=hc a (Qb2 ha);have hj:j<aq.length:=(aS ha)
   have hjn:(j:Int)<(aq.length:Int):=ae;have hj0:(0:Int)<=(j:Int):=ae;have aP:av .i64 ((j:Int)+1)=(j:Int)+1:=wrap_i64 ae;have hk1:((j+1:Nat):Int)=(j:Int)+1:=ae;have e1:(aq.map (Ar.d e))[j]?=some (a.d e):=by simp[ha]
   obtain⟨s,l1,l2,c,i,u,q,ps,_,ex⟩:=a.dP e;rw[ex]at t e1;unfold mM at*;generalize aq.map (Ar.d e)=es at*;have i0:=idx e1;generalize p a=pa at*;refine Ex.of (n:=N+100) ?_;have dw:j<es.length:=(aS e1)
   have hjl:(j:Int)<(es.length:Int):=ae;unfold TH;cases pa
   ·rw[if_neg aC,hk1];simp[ixL,f1105,t,hj0,hjn,dw,hjl,aP,e1,i0,hO,FV.aA,FV.aT]
   ·rw[if_pos rfl];simp[ixL,f1105,t,hj0,hjn,dw,hjl,e1,i0,hO,FV.aA,FV.aT])
  (by
   apply e6;unfold TH;generalize aq.map (Ar.d e)=es at*;rw[<-hl];generalize es.length=n at*;simp[ixL,f1105])
 have h0:Ex E1 f1105.body.l (TH g r0 (aq.map (Ar.d e)) B 0 .u |> fun s=>{s with vars:=(.d (.s 11 (aq.map (Ar.d e)))::.f g [] [.r (.old r0) 0]::qm)}) (.norm,TH g r0 (aq.map (Ar.d e)) B 0 .u |> fun s=>{s with vars:=(.d (.s 11 (aq.map (Ar.d e)))::.f g [] [.r (.old r0) 0]::qm)}):=by
  apply e6;unfold TH;simp[f1105]
 have h1 := nx h0 f1105.body.r.l.l (TH g r0 (aq.map (Ar.d e)) B 0 .u) (by
  apply e6;unfold TH;simp[f1105])
 cases hf:aq.findIdx? p with
 | some j =>
  rw[hf]at hloop;exact oZ (E:=E1) (g:=1105) (F:=f1105) (B:=B) rfl (k1105:E1.fn _=_) rfl (Ex.seq h0 (Ex.bN (Ex.seq h1 (Ex.bG hloop)))) aC (by simp[finish,jF,EO,show f1105.res=[.var 2] from rfl,show f1105.ref=false from rfl,fD,leaves,dL,oneOf,iW,D.norm,FV.rows,FV.mU,aL])
 | none =>
  rw[hf]at hloop;have h2:Ex E1 f1105.body.r.r (TH g r0 (aq.map (Ar.d e)) B aq.length (dB false)) (.ret,{vars:=(.u::.u::dI (-1)::iO),base:=B,loc:=[],aQ:=false}):=by
   apply e6;unfold TH;simp[f1105]
  exact oZ (E:=E1) (g:=1105) (F:=f1105) (B:=B) rfl (k1105:E1.fn _=_) rfl (Ex.seq h0 (Ex.seq (Ex.seq h1 (Ex.block hloop)) h2)) aC (by simp[finish,jF,EO,show f1105.res=[.var 2] from rfl,show f1105.ref=false from rfl,fD,leaves,dL,oneOf,iW,D.norm,FV.rows,FV.mU,aL])
end
section
variable {α:Type} {e:α->W}
def arZ:D:=mM 0 0 0 false [] [] 0 false 0 [] []
def deL:aF:=f1102.body.r.r.r.l.r.bl.lp
def Qp (o az r0 n:Nat)(B:List ai)(R:List D)(J:List ai)(i j:Nat)(t:FV)(dt:Bool):St :=
 {vars:=[.ls (.old o) az 11 0 n,.f 1103 [] [.r (.old r0) 0],.u,dI i,dI j,.u,.u,t,.u],base:=B.set o (.row az 11 R),loc:=J,aQ:=dt}
theorem TI (o az r0 n:Nat)(kk:Int)(ps:List Int)(B:List ai)(hO:fA B)(ho:o<B.length)(hor:o≠r0)(hB:B[r0]?=some (aK kk ps))(R:List (Ar α))(J:List ai)(hJ:fA J)(i j:Nat)(dt:Bool)(x:Ar α)(b:Bool)
  (hR:R.length=n) (hn:n<=1000000) (hx:R[j]?=some x) (hij:i<j) (hz:Ca E1 1104 [.d (bD kk ps),.d (e x.x).d] (dB b,none)) :
  ∃ J' nN,fA J'/\Ex E1 deL (Qp o az r0 n B (R.map (Ar.d e)) J i j .u dt) (.norm,Qp o az r0 n B (if b then R.map (Ar.d e) else(R.set i x).map (Ar.d e)) J' (if b then i else i+1) (j+1) .u nN):=by
 obtain⟨N,tz⟩:=TG kk ps x b hz r0;have hj:j<R.length:=(aS hx)
 obtain⟨y,hy⟩:∃ y,R[i]?=some y:=⟨_,Qa1 ae⟩
 have hjn:(j:Int)<(n:Int):=ae;have hj0:(0:Int)<=(j:Int):=ae;have hin:(i:Int)<(n:Int):=ae;have hi0:(0:Int)<=(i:Int):=ae;have aP:av .i64 ((j:Int)+1)=(j:Int)+1:=wrap_i64 ae;have ae1:av .i64 ((i:Int)+1)=(i:Int)+1:=wrap_i64 ae;have hk1:((j+1:Nat):Int)=(j:Int)+1:=ae;have hk2:((i+1:Nat):Int)=(i:Int)+1:=ae;have e1:(R.map (Ar.d e))[j]?=some (x.d e):=by simp[hx]
 have e2:(R.map (Ar.d e))[i]?=some (y.d e):=by simp[hy]
 have e3:(R.set i x).map (Ar.d e)=(R.map (Ar.d e)).set i (x.d e):=by rw[Q41]
 have t:∀ X m,CL E1 (N+m) 1103 [.d (x.d e),.r (.old r0) 0] (B.set o (.row az 11 (R.map (Ar.d e)))++X)=some (dB b,none):=fun X m =>
  tz _ (by rw[Qa0 (by rw[Xh1];exact(aS hB)),Qc0 hor];exact hB) m
 have hO1:∀ m,(B.set o (.row az 11 (R.map (Ar.d e)))).map (ai.aA m)=B.set o (.row az 11 (R.map (Ar.d e))):=fun m=>by rw[Q41,hO];rfl
 have hset:∀ r,(B.set o (.row az 11 (R.map (Ar.d e)))).set o r=B.set o r:=fun r=>List.set_set ..
 have hg:∀ X,(B.set o (.row az 11 (R.map (Ar.d e)))++X)[o]?=some (.row az 11 (R.map (Ar.d e))):=fun X=>by rw[Qa0 (by simpa using ho)];exact Qd0 ho
 have hol:o<(B.set o (.row az 11 (R.map (Ar.d e)))).length:=by simpa using ho
 have sA:∀ c c':ai,(J++[c]).set J.length c'=J++[c']:=fun c c'=>by simp
 have hJ2:fA (J++[.box ((x.d e).cells.map .d)]):=by
  intro m;rw[Qr0,hJ];simp[ai.aA,d_,FV.aA,Xo0]
 refine⟨J++[.box ((x.d e).cells.map .d)],if b then dt else true,hJ2,?_⟩;obtain⟨s,l1,l2,c,b',u,p,q,_,ex⟩:=x.dP e;obtain⟨s2,m1,m2,c2,b2,u2,p2,q2,_,ey⟩:=y.dP e;rw[e3];simp only[ex,ey]at t e1 e2 ⊢;clear ex ey hx hy hz tz hJ2 e3;unfold mM at*;have hjd:(R.map (Ar.d e)).length=n:=by simpa using hR
 generalize R.map (Ar.d e)=es at*;have i0:=idx e1;have i1:=idx e2;have dw:j<es.length:=(aS e1)
 have hie:i<es.length:=(aS e2)
 unfold Qp;have i2:=fun X=>idx (hg X)
 refine Ex.of (n:=N+200) ?_;have hl1:¬ B.length<=o:=ae;cases b
 ·simp only[Qh1,if_false];rw[hk1,hk2];simp[deL,f1102,t,hj0,hjn,hi0,hin,dw,hie,aP,ae1,i0,i1,hg,hO1,ho,sA,hset,FV.aA,FV.aT,ai.aA]
 ·simp only[if_true];rw[hk1];simp[deL,f1102,t,hj0,hjn,dw,aP,i0,hg,hO1,sA,FV.aA,FV.aT,ai.aA]
theorem X9 (o az r0 n:Nat)(B:List ai)(R:List D)(J:List ai)(i:Nat)(dt:Bool):Ex E1 deL (Qp o az r0 n B R J i n .u dt) (.exit 0,Qp o az r0 n B R J i n (dB false) dt):=by
 apply e6;unfold Qp;simp[deL,f1102]
theorem FK (o az r0:Nat)(kk:Int)(ps:List Int)(B:List ai)(hO:fA B)(ho:o<B.length)(hor:o≠r0)(hB:B[r0]?=some (aK kk ps))(aq:List (Ar α))(hn:aq.length<=1000000)(bT:α->Bool)
  (hz:∀ a ∈ aq,Ca E1 1104 [.d (bD kk ps),.d (e a.x).d] (dB (bT a.x),none)) :
  ∀ (d j i:Nat) (R:List (Ar α)) (J:List ai) (dt:Bool),j+d=aq.length->i<j->R.length=aq.length->R.take i=(aq.take j).filter (fun a => !bT a.x)->R.drop j=aq.drop j->fA J ->
   ∃ (R':List (Ar α)) (J':List ai) (i':Nat) (nN:Bool),Ex E1 (.loop deL) (Qp o az r0 aq.length B (R.map (Ar.d e)) J i j .u dt) (.exit 0,Qp o az r0 aq.length B (R'.map (Ar.d e)) J' i' aq.length (dB false) nN) /\
    R'.length=aq.length/\R'.take i'=aq.filter (fun a => !bT a.x)/\i'<aq.length/\fA J'
 | 0,j,i,R,J,dt,hj,hij,hR,ht,_,hJ=>by
  obtain rfl:j=aq.length:=ae;rw[Qj0]at ht;exact⟨R,J,i,dt,Ex.leave (X9 ..) aC,hR,ht,hij,hJ⟩
 | d+1,j,i,R,J,dt,hj,hij,hR,ht,hd,hJ=>by
  have hlt:j<aq.length:=ae;have hxa:aq[j]?=some aq[j]:=Qa1 hlt;have hx:R[j]?=some aq[j]:=by
   have:(R.drop j)[0]?=(aq.drop j)[0]?:=by rw[hd]
   rw[Qx0,Qx0,Q42,hxa]at this;exact this
  obtain⟨J',nN,hJ',hr⟩:=TI o az r0 aq.length kk ps B hO ho hor hB R J hJ i j dt aq[j] (bT aq[j].x) hR hn hx hij (hz _ (Qj1 hlt));have hf:(aq.take (j+1)).filter (fun a => !bT a.x)=(aq.take j).filter (fun a => !bT a.x)++(if bT aq[j].x then [] else [aq[j]]):=by
   rw[Qi1 hlt,Xl2];cases h:bT aq[j].x<;>simp[h]
  have hd2:R.drop (j+1)=aq.drop (j+1):=by
   have:=congrArg (List.drop 1) hd
   rwa [Xp0,Xp0]at this
  cases hb:bT aq[j].x with
  | true =>
   rw[hb]at hr hf;simp only[if_true]at hr hf;obtain⟨R',J2,i',dt2,h1,h2⟩:=FK o az r0 kk ps B hO ho hor hB aq hn bT hz d (j+1) i R J' nN ae ae hR (by rw[hf,Qx1];exact ht) hd2 hJ';exact⟨R',J2,i',dt2,hr.next h1,h2⟩
  | false =>
   rw[hb]at hr hf;simp only[Qh1,if_false]at hr hf;obtain⟨R',J2,i',dt2,h1,h2⟩:=FK o az r0 kk ps B hO ho hor hB aq hn bT hz d (j+1) (i+1) (R.set i aq[j]) J' nN ae ae (by simpa using hR) (by
     rw[hf,<-ht,Qi1 (by simp;omega)];simp[List.take_set_of_le]) (by rw[List.drop_set_of_lt ae];exact hd2) hJ'
   exact⟨R',J2,i',dt2,hr.next h1,h2⟩
def deleted (e:α->W)(o az:Nat)(B:List ai)(aq:List (Ar α))(r:FV × Option (List ai)):Prop :=
 ∃ row J,r=(.ls (.old o) az 11 0 aq.length,some (B.set o (.row az 11 row)++J))/\row.take aq.length=aq.map (Ar.d e)/\aq.length<=row.length
theorem OL (o az r0:Nat)(kk:Int)(ps:List Int)(B:List ai)(hO:fA B)(hor:o≠r0)(hB:B[r0]?=some (aK kk ps))(aq:List (Ar α))(hn:aq.length<=1000000)(bT:α->Bool)
  (hBo:B[o]?=some (.row az 11 (aq.map (Ar.d e)))) (hz:∀ a ∈ aq,Ca E1 1104 [.d (bD kk ps),.d (e a.x).d] (dB (bT a.x),none)) :
  ∃ r N,(∀ m,CL E1 (N+m) 1102 [.ls (.old o) az 11 0 aq.length,.f 1103 [] [.r (.old r0) 0]] B=some r)/\deleted e o az B (aq.filter fun a => !bT a.x) r:=by
 have ho:o<B.length:=(aS hBo)
 have hself:B.set o (.row az 11 (aq.map (Ar.d e)))=B:=by
  obtain⟨h,e'⟩:=Qm0.1 hBo;rw[<-e',X00]
 have hOf:fA (B.set o (.fU az 11 (aq.map (Ar.d e)))):=fun n=>by rw[Q41,hO];rfl
 obtain⟨N1,t1⟩:=BD (e:=e) 1103 r0 aq (fun a=>bT a.x) (B.set o (.fU az 11 (aq.map (Ar.d e)))) hOf hn (fun a ha=>by
  obtain⟨N,t⟩:=TG kk ps a _ (hz a ha) r0;exact⟨N,t _ (by rw[Qc0 hor];exact hB)⟩)
 have hset:∀ r,(B.set o (.row az 11 (aq.map (Ar.d e)))).set o r=B.set o r:=fun r=>List.set_set ..
 have vw:(ai.row az 11 (aq.map (Ar.d e))).view az 11 0 aq.length=some (aq.map (Ar.d e)):=by
  have:List.take aq.length (aq.map (Ar.d e))=aq.map (Ar.d e):=Qe0 aC;simp[ai.view,this]
 cases hf:aq.findIdx? (fun a=>bT a.x) with
 | none =>
  have hall:aq.filter (fun a => !bT a.x)=aq:=by
   rw[X31];intro a ha;have:=Xd1.1 hf a ha;simpa using this
  rw[hf]at t1;rw[hall];refine⟨_,N1+200,fun m => ?_,⟨aq.map (Ar.d e),[],rfl,Qe0 aC,aC⟩⟩;rw[show N1+200+m=(N1+m)+200 by omega,aB rfl (k1102:E1.fn _=_) rfl];replace t1:=fun k=>bX (t1 0) (show N1+0<=N1+m+k by omega)
  rw[hself];have i0:=idx hBo;have hO':∀ n,List.map (ai.aA n) B=B:=hO;generalize aq.map (Ar.d e)=es,aq.length=n at*;simp[f1102,t1,i0,ho,hO',vw,ai.aA,FV.aA,FV.aT]
 | some i =>
  rw[Qr1]at hf;obtain⟨hi,hiz,hib⟩:=hf;have hf:aq.findIdx? (fun a=>bT a.x)=some i:=by
   rw[Qr1];exact⟨hi,hiz,hib⟩
  rw[hf]at t1;have htk:aq.take i=(aq.take (i+1)).filter (fun a => !bT a.x):=by
   rw[Qi1 hi,Xl2];have h1:(aq.take i).filter (fun a => !bT a.x)=aq.take i:=by
    rw[X31];intro a ha;obtain⟨j,hj⟩:=Xh0.1 ha;rw[Qp1]at hj;split at hj
    ·rename_i hji;have:=hib j hji;rw[Qa1 ae]at hj;cases hj;simpa using this
    ·cases hj
   rw[h1];simp[hiz]
  obtain⟨R',J',i',nN,h1,h2,h3,h4,h5⟩:=FK o az r0 kk ps B hO ho hor hB aq hn bT hz (aq.length-(i+1)) (i+1) i aq [] false ae ae rfl htk rfl (fun _=>rfl);have hO':∀ n,List.map (ai.aA n) B=B:=hO;have i0:=idx hBo;have sA:Ex E1 f1102.body.l {vars:=(.ls (.old o) az 11 0 aq.length::.f 1103 [] [.r (.old r0) 0]::nO),base:=B,loc:=[],aQ:=false}
    (.norm,{vars:=(.ls (.old o) az 11 0 aq.length::.f 1103 [] [.r (.old r0) 0]::nO),base:=B,loc:=[],aQ:=false}):=by
   apply e6;simp[f1102]
  have sB := nx sA f1102.body.r.l {vars:=(.ls (.old o) az 11 0 aq.length::.f 1103 [] [.r (.old r0) 0]::.u::dI i::iO),base:=B,loc:=[],aQ:=false} (by
   refine Ex.of (n:=N1+60) ?_;clear sA h1 hf htk hib hiz hz;generalize aq.map (Ar.d e)=es,aq.length=n at*;simp[f1102,t1,i0,ho,hO',vw,ai.aA,FV.aA,FV.aT])
  have hneg:((i:Int)==-1)=false:=by
   rw[beq_eq_false_iff_ne];omega
  have hw:av .i64 ((i:Int)+1)=(i:Int)+1:=wrap_i64 ae;have sC := nx sB f1102.body.r.r.l {vars:=[.ls (.old o) az 11 0 aq.length,.f 1103 [] [.r (.old r0) 0],.u,dI i,.u,.u,dB false,.u,.u],base:=B,loc:=[],aQ:=false} (by
   apply e6;simp[f1102,hneg])
  have sD := nx sC f1102.body.r.r.r.l.l (Qp o az r0 aq.length B (aq.map (Ar.d e)) [] i (i+1) .u false) (by
   have hk:((i+1:Nat):Int)=(i:Int)+1:=ae;apply e6;unfold Qp;rw[hself,hk];simp[f1102,hw])
  have hRl:(R'.map (Ar.d e)).length=aq.length:=by simpa using h2
  have hsub:aq.length-i'≠0:=ae;have hadd:i'+(aq.length-i')=aq.length:=ae;have hi0:(0:Int)<=(i':Int):=ae;have hin:(i':Int)<=(aq.length:Int):=ae;have hol:o<(B.set o (.row az 11 (R'.map (Ar.d e)))).length:=by simpa using ho
  have hg:∀ X,(B.set o (.row az 11 (R'.map (Ar.d e)))++X)[o]?=some (.row az 11 (R'.map (Ar.d e))):=fun X=>by rw[Qa0 hol];exact Qd0 ho
  have ig:=fun X=>idx (hg X)
  have hdr:List.drop aq.length (R'.map (Ar.d e))=[]:=Xx0 ae;have hl1:¬ B.length<=o:=ae;have sE:Ex E1 f1102.body.r.r.r.r.l (Qp o az r0 aq.length B (R'.map (Ar.d e)) J' i' aq.length (dB false) nN)
    (.norm,{vars:=(.ls (.old o) az 11 0 aq.length::.u::.u::dI i'::iO),base:=B.set o (.row az 11 (List.take i' (R'.map (Ar.d e))++List.replicate (aq.length-i') arZ)),loc:=J',aQ:=true}):=by
   apply e6;unfold Qp arZ mM;clear sA sB sC sD h1 hf htk hib hiz hz t1 h3 h5;generalize R'.map (Ar.d e)=es,aq.length=n at*;simp[f1102,jL,ER,hsub,hadd,hi0,hin,hg,ho,hRl,hdr]
  have hfin:(aq.filter fun a => !bT a.x).length=i':=by
   rw[<-h3,Ql2];omega
  have sF:Ex E1 f1102.body.r.r.r.r.r {vars:=(.ls (.old o) az 11 0 aq.length::.u::.u::dI i'::iO),base:=B.set o (.row az 11 (List.take i' (R'.map (Ar.d e))++List.replicate (aq.length-i') arZ)),loc:=J',aQ:=true}
    (.ret,{vars:=(.u::.u::.ls (.old o) az 11 0 i'::qm),base:=B.set o (.row az 11 (List.take i' (R'.map (Ar.d e))++List.replicate (aq.length-i') arZ)),loc:=J',aQ:=true}):=by
   apply e6;clear sA sB sC sD sE h1 hf htk hib hiz hz t1 h3 h5 hg ig;generalize List.take i' (R'.map (Ar.d e))++List.replicate (aq.length-i') arZ=es at*;generalize aq.length=n at*;simp[f1102,jL,ER,hi0,hin]
  have hlt:(List.take i' (R'.map (Ar.d e))++List.replicate (aq.length-i') arZ).length=aq.length:=by simp;omega
  obtain⟨N,hN⟩:=oZ (E:=E1) (g:=1102) (F:=f1102) (args:=[.ls (.old o) az 11 0 aq.length,.f 1103 [] [.r (.old r0) 0]]) (B:=B) (o:=.ret)
   (r:=(.ls (.old o) az 11 0 i',some (B.set o (.row az 11 (List.take i' (R'.map (Ar.d e))++List.replicate (aq.length-i') arZ))++J'))) rfl (k1102:E1.fn _=_) rfl
   (sA.seq (sB.seq (sC.seq (Ex.seq (sD.seq (Ex.block h1)) (sE.seq sF))))) aC (by
    have e1:∀ k,List.map (ai.aA k) J'=J':=h5;simp[finish,jF,EO,show f1102.res=[.var 2] from rfl,show f1102.ref=true from rfl,dL,oneOf,iW,FV.aA,Q41,hO',e1,ai.aA])
  refine⟨_,N,hN,⟨_,J',by rw[hfin],?_,by rw[hfin,hlt];omega⟩⟩;rw[hfin,List.take_append_of_le_length (by simp;omega),List.take_take,Nat.min_self,<-List.map_take,h3]
end
section
variable {α:Type} {e:α->W} {pl:α->α->α} {z:W} {bT:α->Bool} {G:Nat->α->Prop} {m:Nat} {kk:Int} {ps:List Int}
theorem ML.le (hW:ML kk ps e pl z bT G m){x:α}{n k:Nat}(h:G n x)(hk:n<=k):G k x:=by
 induction k with
 | zero => obtain rfl : n = 0 :=ae
           exact h
 | succ k ih =>
  rcases Q21 hk with rfl|h2
  ·exact h
  ·exact hW.mono _ _ (ih ae)
theorem X_ (hW:ML kk ps e pl z bT G m)(l:List (Ar α))(hl:l.length<=1000000)(hm:l.length<=m)(hg:∀ a ∈ l,G 1 a.x)(s:Nat)(L:List ai)(hJ:fA L)(h0:L[0]?=some (aK kk ps))(hs:L[s]?=some (.row 1 11 (l.map (Ar.d e)))) :
  ∃ out L',Ex E1 (.loop X6) (Iy s l.length 0 (.d (.n 11)) .u L false) (.exit 0,Iy s l.length l.length out (dB false) L' false)/\L'[0]?=some (aK kk ps)/\fA L'/\jU e s out L' (mg pl l)/\(∀ a ∈ mg pl l,G (l.length+1) a.x)/\(mg pl l).length<=l.length:=by
 obtain⟨r,h1,out,L',h2,h3,h4,h5,h6,h7⟩:=Ex.fold (E:=E1) (b:=X6) l (jT pl) []
  (fun j acc st=>∃ out L,st=Iy s l.length j out .u L false/\L[0]?=some (aK kk ps)/\L[s]?=some (.row 1 11 (l.map (Ar.d e)))/\fA L/\jU e s out L acc/\(∀ a ∈ acc,G j a.x)/\acc.length<=j)
  (fun acc r=>∃ out L,r=(.exit 0,Iy s l.length l.length out (dB false) L false)/\L[0]?=some (aK kk ps)/\fA L/\jU e s out L acc/\(∀ a ∈ acc,G l.length a.x)/\acc.length<=l.length)
  (fun j x st hx ⟨out,L,hst,g0,gs,gJ,g1,g2,g3⟩=>by
   subst hst;have hj:j<l.length:=(aS hx)
   have hgx:=hg x (Qb2 hx);generalize hacc:(l.take j).foldl (jT pl) []=acc at*;have hq:∀ y ∈ jT pl acc x,G (j+1) y.x:=KS pl x (fun a=>G j a.x) (fun a=>G (j+1) a.x) (hW.le hgx ae) (fun y h=>hW.mono _ _ h) (fun y h=>hW.pg _ _ _ ae h hgx) acc g2;have hlen:=KT pl x acc
   by_cases hy:∃ q y,acc=q++[y]/\kV y x
   ·obtain⟨q,y,rfl,he⟩:=hy;have e1:jT pl (q++[y]) x=q++[iq pl y x]:=by rw[kI,if_pos he]
    rw[e1]at hq hlen ⊢;simp only[Qb0,Q12]at g3;obtain⟨L',k1,k2,k3,k4,k5⟩:=X8 kk ps s l.length j out L false q l pl x y g0 gs rfl hl hx g1 ae ((vX y x).2 he) (hW.p1 j y.x x.x ae (g2 y aC) hgx);exact⟨_,k1,out,L',rfl,k2,k3,k5 gJ,k4,hq,by simp;omega⟩
   ·have hno:∀ y,acc.getLast?=some y->¬ kV y x:=by
     intro y h1 h2;obtain⟨q,h3⟩:=List.getLast?_eq_some_iff.1 h1;exact hy ⟨q,y,h3,h2⟩
    have e1:jT pl acc x=acc++[x]:=by
     rcases Q72 acc with rfl|⟨q,y,rfl⟩
     ·rfl
     ·rw[Q10]at*;rw[kI,if_neg (hno y aC)]
    rw[e1]at hq hlen ⊢;obtain⟨out',L',k1,k2,k3,k4,k5⟩:=abV kk ps s l.length j out L false acc l x z g0 gs rfl hl hx g1 ae (fun y h1 h2=>hno y h1 ((vX y x).1 h2)) hW.zero (hW.pz x.x hgx);exact⟨_,k1,out',L',rfl,k2,k3,k5 gJ,k4,hq,by simp;omega⟩)
  (fun st ⟨out,L,hst,g0,gs,gJ,g1,g2,g3⟩=>by
   subst hst;refine⟨_,Ex.of (n:=60) (r:=(.exit 0,Iy s l.length l.length out (dB false) L false)) ?_,aC,out,L,rfl,g0,gJ,g1,g2,g3⟩;unfold Iy;generalize l.length=n at*;simp[X6,f1064])
  (st:=Iy s l.length 0 (.d (.n 11)) .u L false) ⟨_,L,rfl,h0,hs,hJ,.inl ⟨rfl,rfl⟩,aC,aC⟩
 subst h2;rw[X4]at h5 h6 h7;exact⟨out,L',h1,h3,h4,h5,fun a ha=>hW.mono _ _ (h6 a ha),h7⟩
theorem KV (B:List ai):∃ N,∀ m,CL E1 (N+m) 1101 [.d (.s 11 []),.d (.fn 1070)] B=some (.d (.t []),none):=by
 have w1:av .i64 1=1:=wrap_i64 ae;have h1:∀ (B:List ai) m,CL E1 (m+100) 1208 [.d (.s 11 []),dI 0,dI 0,.d (.fn 1070)] B=some (.d (.t []),none):=by
  intro B m;rw[aB rfl (k1208:E1.fn _=_) rfl];simp[f1208,aH,w1,lY,FV.aT,FV.aA]
 have h2:∀ (B:List ai) m,CL E1 (m+300) 1138 [.d (.s 11 []),dI 0,.d (.fn 1070)] B=some (.d (.t []),none):=by
  intro B m;rw[aB rfl (k1138:E1.fn _=_) rfl];simp[f1138,aH,h1,lY,FV.aT,FV.aA]
 refine⟨500,fun m => ?_⟩;rw[show 500+m=m+500 by omega,aB rfl (k1101:E1.fn _=_) rfl];simp[f1101,h2,lY,FV.aT,FV.aA]
theorem KW (B:List ai)(hB:fA B):∃ N,∀ m,CL E1 (N+m) 1102 [.d (.n 11),.f 1103 [] [.r (.old 0) 0]] B=some (.d (.n 11),none):=by
 obtain⟨N1,t1⟩:=BD (α:=W) (e:=id) 1103 0 [] (fun _=>false) B hB aC (fun a ha=>by cases ha);have hB':∀ n,List.map (ai.aA n) B=B:=hB;refine⟨N1+200,fun m => ?_⟩;rw[show N1+200+m=(N1+m)+200 by omega,aB rfl (k1102:E1.fn _=_) rfl];replace t1:=fun k=>bX (t1 0) (show N1+0<=N1+m+k by omega)
 simp only[Qc2,List.findIdx?_nil]at t1;simp[f1102,t1,hB',FV.aA,FV.aT]
end
section
variable {α:Type} {e:α->W} {pl:α->α->α} {z:W} {bT:α->Bool} {G:Nat->α->Prop} {m:Nat} {kk:Int} {ps:List Int}
theorem TJ (s:Nat)(v8:FV)(n:Nat)(out:FV)(L:List ai)(aq:List (Ar α))(hJ:fA L)(h0:L[0]?=some (aK kk ps))(ho:jU e s out L aq)(hn:aq.length<=1000000)
  (hz:∀ a ∈ aq,Ca E1 1104 [.d (bD kk ps),.d (e a.x).d] (dB (bT a.x),none)) :
  ∃ st,Ex E1 f1064.body.r.r.r.r.r (st0 [.u,.u,rL 0,.u,.u,out,.u,.u,v8,dI n,dI n,dB false,.u] L) (.ret,st) /\
   finish f1064 st=some (.d (.s 11 ((aq.filter fun a => !bT a.x).map (Ar.d e))),none):=by
 have hJ0:List.map (ai.aA 0) L=L:=hJ 0;rcases ho with ⟨rfl,rfl⟩|⟨i,az,_,rfl,hrow⟩
 ·obtain⟨N,t⟩:=KW L hJ;refine⟨(st0 (.u::.u::.u::.d (.n 11)::CK) L),Ex.of (n:=N+100) ?_,?_⟩
  ·simp[f1064,t,hJ0,FV.aA,FV.aT]
  ·simp[show f1064.res=[.var 3] from rfl,show f1064.ref=false from rfl]
 ·have hi0:i≠0:=fun h=>by subst h;rw[h0]at hrow;cases hrow
  obtain⟨r,N,t,row,J,rfl,h1,h2⟩:=OL i az 0 kk ps L hJ hi0 h0 aq hn bT hrow hz;have hi:i<L.length:=(aS hrow)
  generalize hk:aq.filter (fun a => !bT a.x)=ks at*;have hg:(L.set i (.row az 11 row)++J)[i]?=some (.row az 11 row):=by
   rw[Qa0 (by simpa using hi)];exact Qd0 hi
  generalize L.set i (.row az 11 row)++J=L2 at*;refine⟨(st0 (.u::.u::.u::.ls (.loc i) az 11 0 ks.length::CK) L2),Ex.of (n:=N+100) ?_,?_⟩
  ·generalize aq.length=n2,ks.length=n3 at*;simp[f1064,t,hJ0,FV.aA,FV.aT]
  ·have h9:ai.view az 11 0 ks.length (.row az 11 row)=some (ks.map (Ar.d e)):=by
    have h2':0+ks.length<=row.length:=ae;simp only[ai.view,h2',and_self,if_true,Xu1,h1]
   simp[show f1064.res=[.var 3] from rfl,show f1064.ref=false from rfl,hg,h9]
theorem Ya (hW:ML kk ps e pl z bT G m)(l:List (Ar α))(hl:l.length<20)(hm:l.length<m)(hg:∀ a ∈ l,G 1 a.x) :
  Ca E1 1064 [.d (bD kk ps),.d (.s 11 (l.map (Ar.d e)))] (.d (.s 11 (((di pl l).filter fun a => !bT a.x).map (Ar.d e))),none):=by
 have sA:Ex E1 f1064.body.l (st0 (.d (bD kk ps)::.d (.s 11 (l.map (Ar.d e)))::Gt) [])
   (.norm,(st0 (.u::.d (.s 11 (l.map (Ar.d e)))::rL 0::oD) [aK kk ps])):=by
  apply e6;unfold bD aK;simp[f1064]
 have hrg:∀ n,ai.aA n (aK kk ps)=aK kk ps:=ku [vI kk,.s 1 (LK .i64 ps)];cases hl0:l with
 | nil =>
  obtain⟨N,t⟩:=KV [aK kk ps];have tc:∀ k,CL E1 k 1100 [.d (.s 11 [])] [aK kk ps]=some (.d (.s 11 []),none):=fun k=>by
   rw[qX (p:=qK 11) rfl (ZN:E1.fn _=_) rfl];rfl
  obtain⟨st,h7,h8⟩:=TJ (e:=e) (bT:=bT) 0 (.d (.s 11 [])) 0 (.d (.n 11)) [aK kk ps] [] (fA.one hrg) rfl (.inl ⟨rfl,rfl⟩) aC aC;rw[hl0]at sA;have sB:Ex E1 (.seq f1064.body.r.l (.seq f1064.body.r.r.l (.seq f1064.body.r.r.r.l (.seq f1064.body.r.r.r.r.l f1064.body.r.r.r.r.r)))) (st0 (.u::.d (.s 11 [])::rL 0::oD) [aK kk ps]) (.ret,st):=by
   refine Ex.seq (st1:=(st0 (.u::.u::rL 0::.u::.d (.s 11 [])::zf) [aK kk ps])) ?_ (Ex.seq (st1:=(st0 (.u::.u::rL 0::.u::.d (.s 11 [])::zf) [aK kk ps])) ?_ (Ex.seq (st1:=(st0 (.u::.u::rL 0::.u::.d (.s 11 [])::.d (.n 11)::nO) [aK kk ps])) ?_ (Ex.seq ?_ h7)))
   ·apply e6;generalize aK kk ps=rb at*;simp[f1064,tc,hrg,FV.aA,FV.aT]
   ·refine Ex.of (n:=N+60) ?_;generalize aK kk ps=rb at*;simp[f1064,t,hrg,FV.aA,FV.aT]
   ·apply e6;simp[f1064]
   ·apply e6;simp[f1064,aH]
  exact Ca.body (o:=.ret) rfl (k1064:E1.fn _=_) rfl (sA.seq sB) aC h8
 | cons a0 l0 =>
  rw[<-hl0];have hne:0<l.length:=by rw[hl0];simp
  clear hl0;have hel:(l.map (Ar.d e)).length=l.length:=aC;have tc:∀ k,CL E1 k 1100 [.d (.s 11 (l.map (Ar.d e)))] [aK kk ps]=some (.ls (.old 1) 1 11 0 l.length,some [aK kk ps,.row 1 11 (l.map (Ar.d e))]):=fun k=>by
   rw[qX (p:=qK 11) rfl (ZN:E1.fn _=_) rfl];have hle:(l.map (Ar.d e)).length<=1000000:=ae;cases hm:l.map (Ar.d e) with
   | nil=>rw[hm]at hel;simp at hel;omega
   | cons d ds =>
    rw[hm]at hel hle;have hl2:l.length<=1000000:=ae;simp only[qK,hel,hl2,and_self,if_true];simp[hrg]
  obtain⟨r,N,t0,hr⟩:=OI 1 1 [aK kk ps,.row 1 11 (l.map (Ar.d e))] l rfl (fun n=>by simp only[Qe1,Qc2,hrg,m_]) hl;have t:∀ k,CL E1 (N+k) 1101 [.ls (.old 1) 1 11 0 l.length,.d (.fn 1070)] [aK kk ps,.row 1 11 (l.map (Ar.d e))]=some r:=fun k=>by
   have:=t0 k;rw[iZ]at this ⊢;exact qZ uu (vK uu _) this
  obtain⟨out,L,h1,h2,h3,h4,h5,h6⟩:=X_ hW (bz l) (by rw[kH];omega) (by rw[kH];omega) (fun a ha=>hg a (Iw ha)) 1 [aK kk ps,.row 1 11 ((bz l).map (Ar.d e))] (fun n=>by simp only[Qe1,Qc2,hrg,m_]) rfl rfl;rw[kH]at h1 h5 h6;rw[X3]at h4 h5 h6;obtain⟨st,h7,h8⟩:=TJ (bT:=bT) 1 (.ls (.loc 1) 1 11 0 l.length) l.length out L (di pl l) h3 h2 h4 ae (fun a ha=>hW.z1 _ _ ae (h5 a ha));have sB := nx sA f1064.body.r.l (st0 (.u::.u::rL 0::.u::.ls (.loc 1) 1 11 0 l.length::zf) [aK kk ps,.row 1 11 (l.map (Ar.d e))]) (by
   apply e6;clear h1 h7 h8 h4 sA hel;generalize l.map (Ar.d e)=es,l.length=n,aK kk ps=rb at*;simp[f1064,tc,hrg,FV.aA,FV.aT])
  have sC := nx sB f1064.body.r.r.l (st0 (.u::.u::rL 0::.u::.ls (.loc 1) 1 11 0 l.length::zf) [aK kk ps,.row 1 11 ((bz l).map (Ar.d e))]) (by
   refine Ex.of (n:=N+60) ?_;clear h1 h7 h8 h4 sA sB hel;rcases hr with ⟨rfl,hs⟩|rfl
   ·rw[hs];clear hs;generalize l.map (Ar.d e)=es,l.length=n,aK kk ps=rb at*;simp[f1064,t,hrg,m_,FV.aA,FV.aT]
   ·generalize l.map (Ar.d e)=es at*;generalize (bz l).map (Ar.d e)=es2,l.length=n,aK kk ps=rb at*;simp[f1064,t,hrg,m_,FV.aA,FV.aT])
  have sD := nx sC f1064.body.r.r.r.l (st0 (.u::.u::rL 0::.u::.ls (.loc 1) 1 11 0 l.length::.d (.n 11)::nO) [aK kk ps,.row 1 11 ((bz l).map (Ar.d e))]) (by
   apply e6;generalize l.length=n at*;simp[f1064])
  have sE := nx sD f1064.body.r.r.r.r.l.l (Iy 1 l.length 0 (.d (.n 11)) .u [aK kk ps,.row 1 11 ((bz l).map (Ar.d e))] false) (by
   apply e6;unfold Iy;generalize l.length=n at*;simp[f1064])
  exact Ca.body (o:=.ret) rfl (k1064:E1.fn _=_) rfl (sA.seq (sB.seq (sC.seq (sD.seq (Ex.seq (sE.seq (Ex.block h1)) h7))))) aC h8
end
end Fi.S
