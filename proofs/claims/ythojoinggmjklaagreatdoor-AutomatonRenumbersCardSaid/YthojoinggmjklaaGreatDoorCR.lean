import Derived.Test.YthojoinggmjklaaGreatDoorCQ
set_option linter.unusedVariables false
set_option linter.unusedSimpArgs false
noncomputable section
namespace Fi.S
open Go Fi
set_option maxHeartbeats 8000000
section
variable {α:Type} {e:α->W}
def jE (e:α->W)(s:Nat)(out:FV)(L:List ae)(aq:List (Ar α)):Prop:=(out=.d (.n 11)/\aq=[])\/∃ i av,i≠s/\out=.ls (.loc i) av 11 0 aq.length/\L[i]?=some (.row av 11 (aq.map (Ar.d e)))
def gF (J:List ae):Prop:=∀ n,J.map (ae.az n)=J
theorem gF.add {J X:List ae}(h:gF J)(hx:gF X):gF (J++X):=fun n=>by rw[List.map_append,h,hx]
theorem gF.put {J:List ae}(h:gF J)(i:Nat){r:ae}(hr:∀ n,ae.az n r=r):gF (J.set i r):=fun n=>by rw[List.map_set,h,hr]
theorem gF.one {r:ae}(hr:∀ n,ae.az n r=r):gF [r]:=fun n=>by simp[hr]
theorem l_ (av sz:Nat)(es:List D)(n:Nat):ae.az n (.row av sz es)=.row av sz es:=rfl
theorem kM (cs:List D)(n:Nat):ae.az n (.box (cs.map .d))=.box (cs.map .d):=by simp[ae.az,dR,FV.az,Function.comp_def]
def aK (kk:Int)(ps:List Int):ae:=.box [.d (.v (.int .i64 kk)),.d (.s 1 (LK .i64 ps))]
def Vs:aD:=f1064.body.r.r.r.r.l.r.bl.lp
def Gy (s n j:Nat)(out t:FV)(L:List ae)(dt:Bool):St :=
 {vars:=[.u,.u,.r (.loc 0) 0,.u,.u,out,.u,.u,.ls (.loc s) 1 11 0 n,.d (.v (.int .i64 n)),.d (.v (.int .i64 j)),t,.u],base:=[],loc:=L,aO:=dt}
theorem ab7 (e:α->W)(a b:Ar α):Ca E1 1070 [.d (a.d e),.d (b.d e)] (.d (.v (.int .i64 (gY a b))),none):=Ca.iP (Ca.bO (uN e 0 a b))
theorem Zb (kk:Int)(ps:List Int)(s n j:Nat)(out:FV)(L:List ae)(dt:Bool)(aq sl:List (Ar α))(x:Ar α)(z:W)(h0:L[0]?=some (aK kk ps))(hs:L[s]?=some (.row 1 11 (sl.map (Ar.d e))))(hsl:sl.length=n)(hn:n<=1000000)
  (hx:sl[j]?=some x) (ho:jE e s out L aq) (has:aq.length<=1000000) (hno:∀ y,aq.getLast?=some y->gY y x≠0)
  (hz:Ca E1 26 [.d (bG kk ps)] (.d z.d,none)) (hp:Ca E1 14 [.d (bG kk ps),.d (e x.x).d,.d z.d] (.d (e x.x).d,none)) :
  ∃ out' L' ,Ex E1 Vs (Gy s n j out .u L dt) (.norm,Gy s n (j+1) out' .u L' dt)/\L'[0]?=some (aK kk ps)/\L'[s]?=some (.row 1 11 (sl.map (Ar.d e)))/\jE e s out' L' (aq++[x])/\(gF L->gF L'):=by
 obtain⟨N1,t1⟩:=hz.any;obtain⟨N2,t2⟩:=hp.any;have hj:j<sl.length:=(aT hx)
 have hjn:(j:Int)<(n:Int):=by omega
 have hj0:(0:Int)<=(j:Int):=by omega
 have aR:ak .i64 ((j:Int)+1)=(j:Int)+1:=wrap_i64 (by omega);have hk1:((j+1:Nat):Int)=(j:Int)+1:=by omega
 have e1:(sl.map (Ar.d e))[j]?=some (x.d e):=by simp[hx]
 have l0:0<L.length:=(aT h0)
 have ls:s<L.length:=(aT hs)
 have g0:∀ X,(L++X)[0]?=some (aK kk ps):=fun X=>by rw[List.getElem?_append_left l0];exact h0
 have gs:∀ X,(L++X)[s]?=some (.row 1 11 (sl.map (Ar.d e))):=fun X=>by rw[List.getElem?_append_left ls];exact hs
 have sA:∀ b b':ae,(L++[b]).set L.length b'=L++[b']:=fun b b'=>by simp
 rcases ho with ⟨rfl,rfl⟩|⟨i,av,his,rfl,hrow⟩
 ·obtain⟨K,hK⟩:∃ K,K=N1+N2:=⟨_,rfl⟩
  replace t1:=t1 K (by omega);replace t2:=t2 K (by omega);obtain⟨xs,l1,l2,c,b,u,p,q,ew,ex⟩:=x.dG e;obtain⟨zs,EY,EZ,zc,zb,zu,zp,Gh,ez⟩:=z.aW;refine⟨.ls (.loc (L.length+1)) 0 11 0 1,L++[.box ((x.d e).cells.map .d),.row 0 11 [x.d e]],?_,g0 _,gs _,.inr ⟨L.length+1,0,by omega,rfl,by rw[List.getElem?_append_right (by omega)];simp⟩,fun hJ=>hJ.add (gF.add (J:=[_]) (X:=[_]) (gF.one (kM _)) (gF.one (l_ _ _ _)))⟩;simp only[ex,ez,ew]at t1 t2 e1 gs hs ⊢;clear ew ex ez hno hp hz;unfold aK bG wD mH at*;generalize LK .i64 ps=l9,sl.map (Ar.d e)=es at*;have i0:=idx e1;have j0:=fun X=>idx (g0 X)
  have js:=fun X=>idx (gs X)
  have eP:j<es.length:=(aT e1)
  refine Ex.of (n:=K+300) ?_;unfold Gy;rw[hk1];simp -implicitDefEqProofs[Vs,f1064,t1,t2,hj0,hjn,eP,aR,i0,j0,hs,sA,most]
 ·rcases List.eq_nil_or_concat aq with rfl|⟨q,y,rfl⟩
  ·-- an empty row
   obtain⟨K,hK⟩:∃ K,K=N1+N2:=⟨_,rfl⟩
   replace t1:=t1 K (by omega);replace t2:=t2 K (by omega);have hi0:i≠0:=fun h=>by subst h;rw[h0]at hrow;cases hrow
   have li:i<L.length:=(aT hrow)
   have gi:∀ X,(L++X)[i]?=some (.row av 11 []):=fun X=>by rw[List.getElem?_append_left li];exact hrow
   have si:∀ X r,(L++X).set i r=L.set i r++X:=fun X r=>List.set_append_left _ _ li
   obtain⟨xs,l1,l2,c,b,u,p,q,ew,ex⟩:=x.dG e;obtain⟨zs,EY,EZ,zc,zb,zu,zp,Gh,ez⟩:=z.aW;refine⟨.ls (.loc i) (av+1) 11 0 1,L.set i (.row (av+1) 11 [x.d e])++[.box ((x.d e).cells.map .d)],?_,?_,?_,.inr ⟨i,av+1,his,rfl,?_⟩,fun hJ=>(hJ.put i (l_ _ _ _)).add (gF.one (kM _))⟩
   ·simp only[ex,ez,ew]at t1 t2 e1 gs hs ⊢;clear ew ex ez hno hp hz;unfold aK bG wD mH at*;generalize LK .i64 ps=l9,sl.map (Ar.d e)=es at*;have i0:=idx e1;have j0:=fun X=>idx (g0 X)
    have js:=fun X=>idx (gs X)
    have eP:j<es.length:=(aT e1)
    refine Ex.of (n:=K+300) ?_;unfold Gy;rw[hk1];simp -implicitDefEqProofs[Vs,f1064,t1,t2,hj0,hjn,eP,aR,i0,j0,hs,sA,most,gi,si]
   ·rw[List.getElem?_append_left (by simpa using l0),List.getElem?_set_ne hi0];exact h0
   ·rw[List.getElem?_append_left (by simpa using ls),List.getElem?_set_ne his];exact hs
   ·rw[List.getElem?_append_left (by simpa using li),List.getElem?_set_self li];rfl
  ·obtain⟨N3,t3⟩:=(ab7 e y x).any;obtain⟨K,hK⟩:∃ K,K=N1+N2+N3:=⟨_,rfl⟩
   replace t1:=t1 K (by omega);replace t2:=t2 K (by omega);replace t3:=t3 K (by omega);have hi0:i≠0:=fun h=>by subst h;rw[h0]at hrow;cases hrow
   have li:i<L.length:=(aT hrow)
   have ab8:=hno y (by simp);have Zc:(gY y x==0)=false:=by simpa using ab8
   simp only[List.concat_eq_append]at*;have hlen:(q++[y]).length=q.length+1:=by simp
   rw[hlen]at has;have hcast:((q.length+1:Nat):Int)=(q.length:Int)+1:=by omega
   have hpos:(0:Int)<(q.length:Int)+1:=by omega
   have hq0:(0:Int)<=(q.length:Int):=by omega
   have hw1:ak .i64 (q.length:Int)=(q.length:Int):=wrap_i64 (by omega);have hq1:(q.length:Int)<(q.length:Int)+1:=by omega
   have ey:((q++[y]).map (Ar.d e))[q.length]?=some (y.d e):=by simp
   have hrl:((q++[y]).map (Ar.d e)).length=q.length+1:=by simp
   have gi:∀ X,(L++X)[i]?=some (.row av 11 ((q++[y]).map (Ar.d e))):=fun X=>by rw[List.getElem?_append_left li];exact hrow
   have si:∀ X r,(L++X).set i r=L.set i r++X:=fun X r=>List.set_append_left _ _ li
   have tkr:((q++[y]).map (Ar.d e)).take (q.length+1)=(q++[y]).map (Ar.d e):=List.take_of_length_le (by simp);have m1:(q.length+1+1)*152<=1099511627776:=by omega
   have m2:q.length+1+1<=1099511627776:=by omega
   have hfin:(q++[y]++[x]).map (Ar.d e)=(q++[y]).map (Ar.d e)++[x.d e]:=by simp
   have BZ:(q++[y]++[x]).length=q.length+1+1:=by simp
   refine⟨.ls (.loc i) (av+1) 11 0 (q.length+1+1),L.set i (.row (av+1) 11 ((q++[y]).map (Ar.d e)++[x.d e]))++[.box ((x.d e).cells.map .d)],?_,?_,?_,.inr ⟨i,av+1,his,by rw[BZ],?_⟩,fun hJ=>(hJ.put i (l_ _ _ _)).add (gF.one (kM _))⟩
   ·obtain⟨xs,l1,l2,c,b,u,p,ps',ew,ex⟩:=x.dG e;obtain⟨ys,YC,YD,yc,yb,yu,yp,yps,Vt,KL⟩:=y.dG e;obtain⟨zs,EY,EZ,zc,zb,zu,zp,Gh,ez⟩:=z.aW;simp only[ex,ez,ew,KL]at t1 t2 t3 e1 ey ⊢;rw[hlen];generalize gY y x=od at*;clear ew ex ez Vt KL hno hp hz hfin BZ ab8 hlen;unfold aK bG wD mH at*;generalize LK .i64 ps=l9,sl.map (Ar.d e)=es,(q++[y]).map (Ar.d e)=es2,q.length=m at*;have i0:=idx e1;have j0:=fun X=>idx (g0 X)
    have js:=fun X=>idx (gs X)
    have i1:=idx ey;have eP:j<es.length:=(aT e1)
    refine Ex.of (n:=K+300) ?_;unfold Gy;rw[hk1];simp -implicitDefEqProofs[Vs,f1064,t1,t2,t3,hj0,hjn,eP,aR,i0,j0,i1,hs,sA,most,gi,si,hpos,hq0,hw1,hq1,Zc,hrl,tkr,m1,m2,hcast]
   ·rw[List.getElem?_append_left (by simpa using l0),List.getElem?_set_ne hi0];exact h0
   ·rw[List.getElem?_append_left (by simpa using ls),List.getElem?_set_ne his];exact hs
   ·rw[List.getElem?_append_left (by simpa using li),List.getElem?_set_self li,hfin]
theorem Vu (kk:Int)(ps:List Int)(s n j:Nat)(out:FV)(L:List ae)(dt:Bool)(q sl:List (Ar α))(pl:α->α->α)(x y:Ar α)(h0:L[0]?=some (aK kk ps))(hs:L[s]?=some (.row 1 11 (sl.map (Ar.d e))))(hsl:sl.length=n)(hn:n<=1000000)
  (hx:sl[j]?=some x) (ho:jE e s out L (q++[y])) (has:q.length<=1000000) (heq:gY y x=0) (hp:Ca E1 14 [.d (bG kk ps),.d (e y.x).d,.d (e x.x).d] (.d (e (pl y.x x.x)).d,none)) :
  ∃ L' ,Ex E1 Vs (Gy s n j out .u L dt) (.norm,Gy s n (j+1) out .u L' dt)/\L'[0]?=some (aK kk ps)/\L'[s]?=some (.row 1 11 (sl.map (Ar.d e)))/\jE e s out L' (q++[iQ pl y x])/\(gF L->gF L'):=by
 obtain⟨N2,t2⟩:=hp.any;obtain⟨N3,t3⟩:=(ab7 e y x).any;have hj:j<sl.length:=(aT hx)
 have hjn:(j:Int)<(n:Int):=by omega
 have hj0:(0:Int)<=(j:Int):=by omega
 have aR:ak .i64 ((j:Int)+1)=(j:Int)+1:=wrap_i64 (by omega);have hk1:((j+1:Nat):Int)=(j:Int)+1:=by omega
 have e1:(sl.map (Ar.d e))[j]?=some (x.d e):=by simp[hx]
 have l0:0<L.length:=(aT h0)
 have ls:s<L.length:=(aT hs)
 have g0:∀ X,(L++X)[0]?=some (aK kk ps):=fun X=>by rw[List.getElem?_append_left l0];exact h0
 have gs:∀ X,(L++X)[s]?=some (.row 1 11 (sl.map (Ar.d e))):=fun X=>by rw[List.getElem?_append_left ls];exact hs
 have sA:∀ b b':ae,(L++[b]).set L.length b'=L++[b']:=fun b b'=>by simp
 rcases ho with ⟨_,h⟩|⟨i,av,his,rfl,hrow⟩
 ·simp at h
 ·obtain⟨K,hK⟩:∃ K,K=N2+N3:=⟨_,rfl⟩
  replace t2:=t2 K (by omega);replace t3:=t3 K (by omega);rw[heq]at t3;have hi0:i≠0:=fun h=>by subst h;rw[h0]at hrow;cases hrow
  have li:i<L.length:=(aT hrow)
  have hlen:(q++[y]).length=q.length+1:=by simp
  have hcast:((q.length+1:Nat):Int)=(q.length:Int)+1:=by omega
  have hpos:(0:Int)<(q.length:Int)+1:=by omega
  have hq0:(0:Int)<=(q.length:Int):=by omega
  have hw1:ak .i64 (q.length:Int)=(q.length:Int):=wrap_i64 (by omega);have hq1:(q.length:Int)<(q.length:Int)+1:=by omega
  have ey:((q++[y]).map (Ar.d e))[q.length]?=some (y.d e):=by simp
  have hrl:((q++[y]).map (Ar.d e)).length=q.length+1:=by simp
  have gi:∀ X,(L++X)[i]?=some (.row av 11 ((q++[y]).map (Ar.d e))):=fun X=>by rw[List.getElem?_append_left li];exact hrow
  have si:∀ X r,(L++X).set i r=L.set i r++X:=fun X r=>List.set_append_left _ _ li
  have hfin:(q++[iQ pl y x]).map (Ar.d e)=((q++[y]).map (Ar.d e)).set q.length ((iQ pl y x).d e):=by
   rw[List.map_append,List.map_append,List.set_append_right _ _ (by simp)];simp
  refine⟨L.set i (.row av 11 (((q++[y]).map (Ar.d e)).set q.length ((iQ pl y x).d e)))++[.box ((x.d e).cells.map .d)],?_,?_,?_,.inr ⟨i,av,his,by simp,?_⟩,fun hJ=>(hJ.put i (l_ _ _ _)).add (gF.one (kM _))⟩
  ·obtain⟨xs,l1,l2,c,b,u,p,ps',ew,ex⟩:=x.dG e;obtain⟨ys,YC,YD,yc,yb,yu,yp,yps,Vt,KL⟩:=y.dG e;obtain⟨zs,EY,EZ,zc,zb,zu,zp,Gh,ez,WR⟩:=(iQ pl y x).dG e;have Q6:(e (pl y.x x.x)).d=wD zs EY EZ zc zb zu zp Gh:=ez;simp only[ex,Q6,ew,KL,Vt,WR]at t2 t3 e1 ey ⊢;rw[hlen];have f1:(iQ pl y x).f=y.f:=rfl;have f2:(iQ pl y x).l=y.l:=rfl;have f3:(iQ pl y x).t=y.t:=rfl;rw[f1,f2,f3];clear ew ex ez Q6 Vt KL WR hp hfin hlen f1 f2 f3 heq;unfold aK bG wD mH at*;generalize LK .i64 ps=l9,sl.map (Ar.d e)=es,(q++[y]).map (Ar.d e)=es2,q.length=m at*;have i0:=idx e1;have j0:=fun X=>idx (g0 X)
   have js:=fun X=>idx (gs X)
   have i1:=idx ey;have eP:j<es.length:=(aT e1)
   refine Ex.of (n:=K+300) ?_;unfold Gy;rw[hk1];simp -implicitDefEqProofs[Vs,f1064,t2,t3,hj0,hjn,eP,aR,i0,j0,i1,hs,sA,gi,si,hpos,hq0,hw1,hq1,hrl,hcast]
  ·rw[List.getElem?_append_left (by simpa using l0),List.getElem?_set_ne hi0];exact h0
  ·rw[List.getElem?_append_left (by simpa using ls),List.getElem?_set_ne his];exact hs
  ·rw[List.getElem?_append_left (by simpa using li),List.getElem?_set_self li,hfin]
end
section
variable {α:Type} {e:α->W}
theorem Rh (kk:Int)(ps:List Int)(x:Ar α)(b:Bool)(h:Ca E1 1104 [.d (bG kk ps),.d (e x.x).d] (.d (.v (.bool b)),none))(r0:Nat) :
  ∃ N,∀ B:List ae,B[r0]?=some (aK kk ps)->∀ m,CL E1 (N+m) 1103 [.d (x.d e),.r (.old r0) 0] B=some (.d (.v (.bool b)),none):=by
 obtain⟨N,t⟩:=h.get;refine⟨N+100,fun B hB m => ?_⟩;have l0:r0<B.length:=(aT hB)
 have gB:∀ X,(B++X)[r0]?=some (aK kk ps):=fun X=>by rw[List.getElem?_append_left l0];exact hB
 obtain⟨s,l1,l2,c,i,u,p,q,ew,ex⟩:=x.dG e;rw[ew]at t;rw[ex];unfold aK bG wD mH at*;generalize LK .i64 ps=l9 at*;rw[show N+100+m=(N+m)+100 by omega,aA rfl (k1103:E1.fn _=_) rfl];replace t:=fun k=>dM (t 0) (show N+0<=N+m+k by omega)
 simp -implicitDefEqProofs[f1103,t,gB]
def ixL:aD:=f1105.body.r.l.r.bl.lp
def Ob (g r0:Nat)(es:List D)(B:List ae)(j:Nat)(t:FV):St :=
 {vars:=[.d (.s 11 es),.f g [] [.r (.old r0) 0],.u,.u,.d (.v (.int .i64 es.length)),.d (.v (.int .i64 j)),t,.u],base:=B,loc:=[],aO:=false}
theorem Ap (g r0:Nat)(aq:List (Ar α))(p:Ar α->Bool)(B:List ae)(hO:∀ n,B.map (ae.az n)=B)(hn:aq.length<=1000000)(hc:∀ a ∈ aq,∃ N,∀ m,CL E1 (N+m) g [.d (a.d e),.r (.old r0) 0] B=some (.d (.v (.bool (p a))),none)) :
  ∃ N,∀ m,CL E1 (N+m) 1105 [.d (.s 11 (aq.map (Ar.d e))),.f g [] [.r (.old r0) 0]] B=some (.d (.v (.int .i64 (match aq.findIdx? p with|some j=>(j:Int)|none=>-1))),none):=by
 have hl:(aq.map (Ar.d e)).length=aq.length:=by simp
 have hloop:=Ex.pY (E:=E1) (b:=ixL) aq p (fun j=>Ob g r0 (aq.map (Ar.d e)) B j .u) (.exit 0,Ob g r0 (aq.map (Ar.d e)) B aq.length (.d (.v (.bool false)))) (fun j=>(.ret,{vars:=[.u,.u,.d (.v (.int .i64 j)),.u,.u,.u,.u,.u],base:=B,loc:=[],aO:=false})) (by simp) (by simp)
  (fun j a ha=>by
   obtain⟨N,t⟩:=hc a (List.mem_of_getElem? ha);have hj:j<aq.length:=(aT ha)
   have hjn:(j:Int)<(aq.length:Int):=by omega
   have hj0:(0:Int)<=(j:Int):=by omega
   have aR:ak .i64 ((j:Int)+1)=(j:Int)+1:=wrap_i64 (by omega);have hk1:((j+1:Nat):Int)=(j:Int)+1:=by omega
   have e1:(aq.map (Ar.d e))[j]?=some (a.d e):=by simp[ha]
   obtain⟨s,l1,l2,c,i,u,q,ps,_,ex⟩:=a.dG e;rw[ex]at t e1;unfold mH at*;generalize aq.map (Ar.d e)=es at*;have i0:=idx e1;generalize p a=pa at*;refine Ex.of (n:=N+100) ?_;have eP:j<es.length:=(aT e1)
   have hjl:(j:Int)<(es.length:Int):=by omega
   unfold Ob;cases pa
   ·rw[if_neg (by simp),hk1];simp -implicitDefEqProofs[ixL,f1105,t,hj0,hjn,eP,hjl,aR,e1,i0,hO,FV.az,FV.aN]
   ·rw[if_pos rfl];simp -implicitDefEqProofs[ixL,f1105,t,hj0,hjn,eP,hjl,e1,i0,hO,FV.az,FV.aN])
  (by
   refine Ex.of (n:=60) ?_;unfold Ob;generalize aq.map (Ar.d e)=es at*;rw[<-hl];generalize es.length=n at*;simp -implicitDefEqProofs[ixL,f1105])
 have h0:Ex E1 f1105.body.l (Ob g r0 (aq.map (Ar.d e)) B 0 .u |> fun s=>{s with vars:=[.d (.s 11 (aq.map (Ar.d e))),.f g [] [.r (.old r0) 0],.u,.u,.u,.u,.u,.u]}) (.norm,Ob g r0 (aq.map (Ar.d e)) B 0 .u |> fun s=>{s with vars:=[.d (.s 11 (aq.map (Ar.d e))),.f g [] [.r (.old r0) 0],.u,.u,.u,.u,.u,.u]}):=by
  refine Ex.of (n:=60) ?_;unfold Ob;simp -implicitDefEqProofs[f1105]
 have h1:Ex E1 f1105.body.r.l.l (Ob g r0 (aq.map (Ar.d e)) B 0 .u |> fun s=>{s with vars:=[.d (.s 11 (aq.map (Ar.d e))),.f g [] [.r (.old r0) 0],.u,.u,.u,.u,.u,.u]}) (.norm,Ob g r0 (aq.map (Ar.d e)) B 0 .u):=by
  refine Ex.of (n:=60) ?_;unfold Ob;simp -implicitDefEqProofs[f1105]
 cases hf:aq.findIdx? p with
 | some j =>
  rw[hf]at hloop;exact nO (E:=E1) (g:=1105) (F:=f1105) (B:=B) rfl (k1105:E1.fn _=_) rfl (Ex.seq h0 (Ex.bD (Ex.seq h1 (Ex.bf hloop)))) (by simp) (by simp[finish,kz,Dv,show f1105.res=[.var 2] from rfl,show f1105.ref=false from rfl,eU,leaves,eZ,oneOf,jm,D.norm,FV.rows,FV.lY,aI])
 | none =>
  rw[hf]at hloop;have h2:Ex E1 f1105.body.r.r (Ob g r0 (aq.map (Ar.d e)) B aq.length (.d (.v (.bool false)))) (.ret,{vars:=[.u,.u,.d (.v (.int .i64 (-1))),.u,.u,.u,.u,.u],base:=B,loc:=[],aO:=false}):=by
   refine Ex.of (n:=60) ?_;unfold Ob;simp -implicitDefEqProofs[f1105]
  exact nO (E:=E1) (g:=1105) (F:=f1105) (B:=B) rfl (k1105:E1.fn _=_) rfl (Ex.seq h0 (Ex.seq (Ex.seq h1 (Ex.block hloop)) h2)) (by simp) (by simp[finish,kz,Dv,show f1105.res=[.var 2] from rfl,show f1105.ref=false from rfl,eU,leaves,eZ,oneOf,jm,D.norm,FV.rows,FV.lY,aI])
end
section
variable {α:Type} {e:α->W}
def Zd:D:=mH 0 0 0 false [] [] 0 false 0 [] []
def deL:aD:=f1102.body.r.r.r.l.r.bl.lp
def Oc (o av r0 n:Nat)(B:List ae)(R:List D)(J:List ae)(i j:Nat)(t:FV)(dt:Bool):St :=
 {vars:=[.ls (.old o) av 11 0 n,.f 1103 [] [.r (.old r0) 0],.u,.d (.v (.int .i64 i)),.d (.v (.int .i64 j)),.u,.u,t,.u],base:=B.set o (.row av 11 R),loc:=J,aO:=dt}
theorem Ri (o av r0 n:Nat)(kk:Int)(ps:List Int)(B:List ae)(hO:gF B)(ho:o<B.length)(hor:o≠r0)(hB:B[r0]?=some (aK kk ps))(R:List (Ar α))(J:List ae)(hJ:gF J)(i j:Nat)(dt:Bool)(x:Ar α)(b:Bool)
  (hR:R.length=n) (hn:n<=1000000) (hx:R[j]?=some x) (hij:i<j) (hz:Ca E1 1104 [.d (bG kk ps),.d (e x.x).d] (.d (.v (.bool b)),none)) :
  ∃ J' Bp,gF J'/\Ex E1 deL (Oc o av r0 n B (R.map (Ar.d e)) J i j .u dt) (.norm,Oc o av r0 n B (if b then R.map (Ar.d e) else(R.set i x).map (Ar.d e)) J' (if b then i else i+1) (j+1) .u Bp):=by
 obtain⟨N,tz⟩:=Rh kk ps x b hz r0;have hj:j<R.length:=(aT hx)
 obtain⟨y,hy⟩:∃ y,R[i]?=some y:=⟨_,List.getElem?_eq_getElem (by omega)⟩
 have hjn:(j:Int)<(n:Int):=by omega
 have hj0:(0:Int)<=(j:Int):=by omega
 have hin:(i:Int)<(n:Int):=by omega
 have hi0:(0:Int)<=(i:Int):=by omega
 have aR:ak .i64 ((j:Int)+1)=(j:Int)+1:=wrap_i64 (by omega);have ab9:ak .i64 ((i:Int)+1)=(i:Int)+1:=wrap_i64 (by omega);have hk1:((j+1:Nat):Int)=(j:Int)+1:=by omega
 have hk2:((i+1:Nat):Int)=(i:Int)+1:=by omega
 have e1:(R.map (Ar.d e))[j]?=some (x.d e):=by simp[hx]
 have e2:(R.map (Ar.d e))[i]?=some (y.d e):=by simp[hy]
 have e3:(R.set i x).map (Ar.d e)=(R.map (Ar.d e)).set i (x.d e):=by rw[List.map_set]
 have t:∀ X m,CL E1 (N+m) 1103 [.d (x.d e),.r (.old r0) 0] (B.set o (.row av 11 (R.map (Ar.d e)))++X)=some (.d (.v (.bool b)),none):=fun X m =>
  tz _ (by rw[List.getElem?_append_left (by rw[List.length_set];exact(aT hB)),List.getElem?_set_ne hor];exact hB) m
 have hO1:∀ m,(B.set o (.row av 11 (R.map (Ar.d e)))).map (ae.az m)=B.set o (.row av 11 (R.map (Ar.d e))):=fun m=>by rw[List.map_set,hO];rfl
 have hset:∀ r,(B.set o (.row av 11 (R.map (Ar.d e)))).set o r=B.set o r:=fun r=>List.set_set ..
 have hg:∀ X,(B.set o (.row av 11 (R.map (Ar.d e)))++X)[o]?=some (.row av 11 (R.map (Ar.d e))):=fun X=>by rw[List.getElem?_append_left (by simpa using ho)];exact List.getElem?_set_self ho
 have hol:o<(B.set o (.row av 11 (R.map (Ar.d e)))).length:=by simpa using ho
 have sA:∀ c c':ae,(J++[c]).set J.length c'=J++[c']:=fun c c'=>by simp
 have hJ2:gF (J++[.box ((x.d e).cells.map .d)]):=by
  intro m;rw[List.map_append,hJ];simp[ae.az,dR,FV.az,Function.comp_def]
 refine⟨J++[.box ((x.d e).cells.map .d)],if b then dt else true,hJ2,?_⟩;obtain⟨s,l1,l2,c,b',u,p,q,_,ex⟩:=x.dG e;obtain⟨s2,m1,m2,c2,b2,u2,p2,q2,_,ey⟩:=y.dG e;rw[e3];simp only[ex,ey]at t e1 e2 ⊢;clear ex ey hx hy hz tz hJ2 e3;unfold mH at*;have hjd:(R.map (Ar.d e)).length=n:=by simpa using hR
 generalize R.map (Ar.d e)=es at*;have i0:=idx e1;have i1:=idx e2;have eP:j<es.length:=(aT e1)
 have hie:i<es.length:=(aT e2)
 unfold Oc;have i2:=fun X=>idx (hg X)
 refine Ex.of (n:=N+200) ?_;have hl1:¬ B.length<=o:=by omega
 cases b
 ·simp only[Bool.false_eq_true,if_false];rw[hk1,hk2];simp -implicitDefEqProofs[deL,f1102,t,hj0,hjn,hi0,hin,eP,hie,aR,ab9,i0,i1,hg,hO1,ho,sA,hset,FV.az,FV.aN,ae.az]
 ·simp only[if_true];rw[hk1];simp -implicitDefEqProofs[deL,f1102,t,hj0,hjn,eP,aR,i0,hg,hO1,sA,FV.az,FV.aN,ae.az]
theorem Vv (o av r0 n:Nat)(B:List ae)(R:List D)(J:List ae)(i:Nat)(dt:Bool):Ex E1 deL (Oc o av r0 n B R J i n .u dt) (.exit 0,Oc o av r0 n B R J i n (.d (.v (.bool false))) dt):=by
 refine Ex.of (n:=60) ?_;unfold Oc;simp -implicitDefEqProofs[deL,f1102]
theorem El (o av r0:Nat)(kk:Int)(ps:List Int)(B:List ae)(hO:gF B)(ho:o<B.length)(hor:o≠r0)(hB:B[r0]?=some (aK kk ps))(aq:List (Ar α))(hn:aq.length<=1000000)(eQ:α->Bool)
  (hz:∀ a ∈ aq,Ca E1 1104 [.d (bG kk ps),.d (e a.x).d] (.d (.v (.bool (eQ a.x))),none)) :
  ∀ (d j i:Nat) (R:List (Ar α)) (J:List ae) (dt:Bool),j+d=aq.length->i<j->R.length=aq.length->R.take i=(aq.take j).filter (fun a => !eQ a.x)->R.drop j=aq.drop j->gF J ->
   ∃ (R':List (Ar α)) (J':List ae) (i':Nat) (Bp:Bool),Ex E1 (.loop deL) (Oc o av r0 aq.length B (R.map (Ar.d e)) J i j .u dt) (.exit 0,Oc o av r0 aq.length B (R'.map (Ar.d e)) J' i' aq.length (.d (.v (.bool false))) Bp) /\
    R'.length=aq.length/\R'.take i'=aq.filter (fun a => !eQ a.x)/\i'<aq.length/\gF J'
 | 0,j,i,R,J,dt,hj,hij,hR,ht,_,hJ=>by
  obtain rfl:j=aq.length:=by omega
  rw[List.take_length]at ht;exact⟨R,J,i,dt,Ex.leave (Vv ..) (by simp),hR,ht,hij,hJ⟩
 | d+1,j,i,R,J,dt,hj,hij,hR,ht,hd,hJ=>by
  have hlt:j<aq.length:=by omega
  have hxa:aq[j]?=some aq[j]:=List.getElem?_eq_getElem hlt;have hx:R[j]?=some aq[j]:=by
   have:(R.drop j)[0]?=(aq.drop j)[0]?:=by rw[hd]
   rw[List.getElem?_drop,List.getElem?_drop,Nat.add_zero,hxa]at this;exact this
  obtain⟨J',Bp,hJ',hr⟩:=Ri o av r0 aq.length kk ps B hO ho hor hB R J hJ i j dt aq[j] (eQ aq[j].x) hR hn hx hij (hz _ (List.getElem_mem hlt));have hf:(aq.take (j+1)).filter (fun a => !eQ a.x)=(aq.take j).filter (fun a => !eQ a.x)++(if eQ aq[j].x then [] else [aq[j]]):=by
   rw[List.take_succ_eq_append_getElem hlt,List.filter_append];cases h:eQ aq[j].x<;>simp[h]
  have hd2:R.drop (j+1)=aq.drop (j+1):=by
   have:=congrArg (List.drop 1) hd
   rwa [List.drop_drop,List.drop_drop]at this
  cases hb:eQ aq[j].x with
  | true =>
   rw[hb]at hr hf;simp only[if_true]at hr hf;obtain⟨R',J2,i',dt2,h1,h2⟩:=El o av r0 kk ps B hO ho hor hB aq hn eQ hz d (j+1) i R J' Bp (by omega) (by omega) hR (by rw[hf,List.append_nil];exact ht) hd2 hJ';exact⟨R',J2,i',dt2,hr.next h1,h2⟩
  | false =>
   rw[hb]at hr hf;simp only[Bool.false_eq_true,if_false]at hr hf;obtain⟨R',J2,i',dt2,h1,h2⟩:=El o av r0 kk ps B hO ho hor hB aq hn eQ hz d (j+1) (i+1) (R.set i aq[j]) J' Bp (by omega) (by omega) (by simpa using hR) (by
     rw[hf,<-ht,List.take_succ_eq_append_getElem (by simp;omega)];simp[List.take_set_of_le]) (by rw[List.drop_set_of_lt (by omega)];exact hd2) hJ'
   exact⟨R',J2,i',dt2,hr.next h1,h2⟩
def deleted (e:α->W)(o av:Nat)(B:List ae)(aq:List (Ar α))(r:FV × Option (List ae)):Prop :=
 ∃ row J,r=(.ls (.old o) av 11 0 aq.length,some (B.set o (.row av 11 row)++J))/\row.take aq.length=aq.map (Ar.d e)/\aq.length<=row.length
theorem MN (o av r0:Nat)(kk:Int)(ps:List Int)(B:List ae)(hO:gF B)(hor:o≠r0)(hB:B[r0]?=some (aK kk ps))(aq:List (Ar α))(hn:aq.length<=1000000)(eQ:α->Bool)
  (hBo:B[o]?=some (.row av 11 (aq.map (Ar.d e)))) (hz:∀ a ∈ aq,Ca E1 1104 [.d (bG kk ps),.d (e a.x).d] (.d (.v (.bool (eQ a.x))),none)) :
  ∃ r N,(∀ m,CL E1 (N+m) 1102 [.ls (.old o) av 11 0 aq.length,.f 1103 [] [.r (.old r0) 0]] B=some r)/\deleted e o av B (aq.filter fun a => !eQ a.x) r:=by
 have ho:o<B.length:=(aT hBo)
 have hself:B.set o (.row av 11 (aq.map (Ar.d e)))=B:=by
  obtain⟨h,e'⟩:=List.getElem?_eq_some_iff.1 hBo;rw[<-e',List.set_getElem_self]
 have hOf:gF (B.set o (.fM av 11 (aq.map (Ar.d e)))):=fun n=>by rw[List.map_set,hO];rfl
 obtain⟨N1,t1⟩:=Ap (e:=e) 1103 r0 aq (fun a=>eQ a.x) (B.set o (.fM av 11 (aq.map (Ar.d e)))) hOf hn (fun a ha=>by
  obtain⟨N,t⟩:=Rh kk ps a _ (hz a ha) r0;exact⟨N,t _ (by rw[List.getElem?_set_ne hor];exact hB)⟩)
 have hset:∀ r,(B.set o (.row av 11 (aq.map (Ar.d e)))).set o r=B.set o r:=fun r=>List.set_set ..
 have vw:(ae.row av 11 (aq.map (Ar.d e))).view av 11 0 aq.length=some (aq.map (Ar.d e)):=by
  have:List.take aq.length (aq.map (Ar.d e))=aq.map (Ar.d e):=List.take_of_length_le (by simp);simp[ae.view,this]
 cases hf:aq.findIdx? (fun a=>eQ a.x) with
 | none =>
  have hall:aq.filter (fun a => !eQ a.x)=aq:=by
   rw[List.filter_eq_self];intro a ha;have:=List.findIdx?_eq_none_iff.1 hf a ha;simpa using this
  rw[hf]at t1;rw[hall];refine⟨_,N1+200,fun m => ?_,⟨aq.map (Ar.d e),[],rfl,List.take_of_length_le (by simp),by simp⟩⟩;rw[show N1+200+m=(N1+m)+200 by omega,aA rfl (k1102:E1.fn _=_) rfl];replace t1:=fun k=>dM (t1 0) (show N1+0<=N1+m+k by omega)
  rw[hself];have i0:=idx hBo;have hO':∀ n,List.map (ae.az n) B=B:=hO;generalize aq.map (Ar.d e)=es,aq.length=n at*;simp -implicitDefEqProofs[f1102,t1,i0,ho,hO',vw,ae.az,FV.az,FV.aN]
 | some i =>
  rw[List.findIdx?_eq_some_iff_getElem]at hf;obtain⟨hi,hiz,hib⟩:=hf;have hf:aq.findIdx? (fun a=>eQ a.x)=some i:=by
   rw[List.findIdx?_eq_some_iff_getElem];exact⟨hi,hiz,hib⟩
  rw[hf]at t1;have htk:aq.take i=(aq.take (i+1)).filter (fun a => !eQ a.x):=by
   rw[List.take_succ_eq_append_getElem hi,List.filter_append];have h1:(aq.take i).filter (fun a => !eQ a.x)=aq.take i:=by
    rw[List.filter_eq_self];intro a ha;obtain⟨j,hj⟩:=List.mem_iff_getElem?.1 ha;rw[List.getElem?_take]at hj;split at hj
    ·rename_i hji;have:=hib j hji;rw[List.getElem?_eq_getElem (by omega)]at hj;cases hj;simpa using this
    ·cases hj
   rw[h1];simp[hiz]
  obtain⟨R',J',i',Bp,h1,h2,h3,h4,h5⟩:=El o av r0 kk ps B hO ho hor hB aq hn eQ hz (aq.length-(i+1)) (i+1) i aq [] false (by omega) (by omega) rfl htk rfl (fun _=>rfl);have hO':∀ n,List.map (ae.az n) B=B:=hO;have i0:=idx hBo;have sA:Ex E1 f1102.body.l {vars:=[.ls (.old o) av 11 0 aq.length,.f 1103 [] [.r (.old r0) 0],.u,.u,.u,.u,.u,.u,.u],base:=B,loc:=[],aO:=false}
    (.norm,{vars:=[.ls (.old o) av 11 0 aq.length,.f 1103 [] [.r (.old r0) 0],.u,.u,.u,.u,.u,.u,.u],base:=B,loc:=[],aO:=false}):=by
   refine Ex.of (n:=60) ?_;simp -implicitDefEqProofs[f1102]
  have sB:Ex E1 f1102.body.r.l {vars:=[.ls (.old o) av 11 0 aq.length,.f 1103 [] [.r (.old r0) 0],.u,.u,.u,.u,.u,.u,.u],base:=B,loc:=[],aO:=false}
    (.norm,{vars:=[.ls (.old o) av 11 0 aq.length,.f 1103 [] [.r (.old r0) 0],.u,.d (.v (.int .i64 i)),.u,.u,.u,.u,.u],base:=B,loc:=[],aO:=false}):=by
   refine Ex.of (n:=N1+60) ?_;clear sA h1 hf htk hib hiz hz;generalize aq.map (Ar.d e)=es,aq.length=n at*;simp -implicitDefEqProofs[f1102,t1,i0,ho,hO',vw,ae.az,FV.az,FV.aN]
  have hneg:((i:Int)==-1)=false:=by
   rw[beq_eq_false_iff_ne];omega
  have hw:ak .i64 ((i:Int)+1)=(i:Int)+1:=wrap_i64 (by omega);have sC:Ex E1 f1102.body.r.r.l {vars:=[.ls (.old o) av 11 0 aq.length,.f 1103 [] [.r (.old r0) 0],.u,.d (.v (.int .i64 i)),.u,.u,.u,.u,.u],base:=B,loc:=[],aO:=false}
    (.norm,{vars:=[.ls (.old o) av 11 0 aq.length,.f 1103 [] [.r (.old r0) 0],.u,.d (.v (.int .i64 i)),.u,.u,.d (.v (.bool false)),.u,.u],base:=B,loc:=[],aO:=false}):=by
   refine Ex.of (n:=60) ?_;simp -implicitDefEqProofs[f1102,hneg]
  have sD:Ex E1 f1102.body.r.r.r.l.l {vars:=[.ls (.old o) av 11 0 aq.length,.f 1103 [] [.r (.old r0) 0],.u,.d (.v (.int .i64 i)),.u,.u,.d (.v (.bool false)),.u,.u],base:=B,loc:=[],aO:=false}
    (.norm,Oc o av r0 aq.length B (aq.map (Ar.d e)) [] i (i+1) .u false):=by
   have hk:((i+1:Nat):Int)=(i:Int)+1:=by omega
   refine Ex.of (n:=60) ?_;unfold Oc;rw[hself,hk];simp -implicitDefEqProofs[f1102,hw]
  have hRl:(R'.map (Ar.d e)).length=aq.length:=by simpa using h2
  have hsub:aq.length-i'≠0:=by omega
  have hadd:i'+(aq.length-i')=aq.length:=by omega
  have hi0:(0:Int)<=(i':Int):=by omega
  have hin:(i':Int)<=(aq.length:Int):=by omega
  have hol:o<(B.set o (.row av 11 (R'.map (Ar.d e)))).length:=by simpa using ho
  have hg:∀ X,(B.set o (.row av 11 (R'.map (Ar.d e)))++X)[o]?=some (.row av 11 (R'.map (Ar.d e))):=fun X=>by rw[List.getElem?_append_left hol];exact List.getElem?_set_self ho
  have ig:=fun X=>idx (hg X)
  have hdr:List.drop aq.length (R'.map (Ar.d e))=[]:=List.drop_of_length_le (by omega);have hl1:¬ B.length<=o:=by omega
  have sE:Ex E1 f1102.body.r.r.r.r.l (Oc o av r0 aq.length B (R'.map (Ar.d e)) J' i' aq.length (.d (.v (.bool false))) Bp)
    (.norm,{vars:=[.ls (.old o) av 11 0 aq.length,.u,.u,.d (.v (.int .i64 i')),.u,.u,.u,.u,.u],base:=B.set o (.row av 11 (List.take i' (R'.map (Ar.d e))++List.replicate (aq.length-i') Zd)),loc:=J',aO:=true}):=by
   refine Ex.of (n:=60) ?_;unfold Oc Zd mH;clear sA sB sC sD h1 hf htk hib hiz hz t1 h3 h5;generalize R'.map (Ar.d e)=es,aq.length=n at*;simp -implicitDefEqProofs[f1102,jq,Dx,hsub,hadd,hi0,hin,hg,ho,hRl,hdr]
  have hfin:(aq.filter fun a => !eQ a.x).length=i':=by
   rw[<-h3,List.length_take];omega
  have sF:Ex E1 f1102.body.r.r.r.r.r {vars:=[.ls (.old o) av 11 0 aq.length,.u,.u,.d (.v (.int .i64 i')),.u,.u,.u,.u,.u],base:=B.set o (.row av 11 (List.take i' (R'.map (Ar.d e))++List.replicate (aq.length-i') Zd)),loc:=J',aO:=true}
    (.ret,{vars:=[.u,.u,.ls (.old o) av 11 0 i',.u,.u,.u,.u,.u,.u],base:=B.set o (.row av 11 (List.take i' (R'.map (Ar.d e))++List.replicate (aq.length-i') Zd)),loc:=J',aO:=true}):=by
   refine Ex.of (n:=60) ?_;clear sA sB sC sD sE h1 hf htk hib hiz hz t1 h3 h5 hg ig;generalize List.take i' (R'.map (Ar.d e))++List.replicate (aq.length-i') Zd=es at*;generalize aq.length=n at*;simp -implicitDefEqProofs[f1102,jq,Dx,hi0,hin]
  have hlt:(List.take i' (R'.map (Ar.d e))++List.replicate (aq.length-i') Zd).length=aq.length:=by simp;omega
  obtain⟨N,hN⟩:=nO (E:=E1) (g:=1102) (F:=f1102) (args:=[.ls (.old o) av 11 0 aq.length,.f 1103 [] [.r (.old r0) 0]]) (B:=B) (o:=.ret)
   (r:=(.ls (.old o) av 11 0 i',some (B.set o (.row av 11 (List.take i' (R'.map (Ar.d e))++List.replicate (aq.length-i') Zd))++J'))) rfl (k1102:E1.fn _=_) rfl
   (sA.seq (sB.seq (sC.seq (Ex.seq (sD.seq (Ex.block h1)) (sE.seq sF))))) (by simp) (by
    have e1:∀ k,List.map (ae.az k) J'=J':=h5;simp[finish,kz,Dv,show f1102.res=[.var 2] from rfl,show f1102.ref=true from rfl,eZ,oneOf,jm,FV.az,List.map_set,hO',e1,ae.az])
  refine⟨_,N,hN,⟨_,J',by rw[hfin],?_,by rw[hfin,hlt];omega⟩⟩;rw[hfin,List.take_append_of_le_length (by simp;omega),List.take_take,Nat.min_self,<-List.map_take,h3]
end
section
variable {α:Type} {e:α->W} {pl:α->α->α} {z:W} {eQ:α->Bool} {G:Nat->α->Prop} {m:Nat} {kk:Int} {ps:List Int}
theorem KN.le (hW:KN kk ps e pl z eQ G m){x:α}{n k:Nat}(h:G n x)(hk:n<=k):G k x:=by
 induction k with
 | zero => obtain rfl : n = 0 := by omega
           exact h
 | succ k ih =>
  rcases Nat.eq_or_lt_of_le hk with rfl|h2
  ·exact h
  ·exact hW.mono _ _ (ih (by omega))
theorem Vw (hW:KN kk ps e pl z eQ G m)(l:List (Ar α))(hl:l.length<=1000000)(hm:l.length<=m)(hg:∀ a ∈ l,G 1 a.x)(s:Nat)(L:List ae)(hJ:gF L)(h0:L[0]?=some (aK kk ps))(hs:L[s]?=some (.row 1 11 (l.map (Ar.d e)))) :
  ∃ out L',Ex E1 (.loop Vs) (Gy s l.length 0 (.d (.n 11)) .u L false) (.exit 0,Gy s l.length l.length out (.d (.v (.bool false))) L' false)/\L'[0]?=some (aK kk ps)/\gF L'/\jE e s out L' (mg pl l)/\(∀ a ∈ mg pl l,G (l.length+1) a.x)/\(mg pl l).length<=l.length:=by
 obtain⟨r,h1,out,L',h2,h3,h4,h5,h6,h7⟩:=Ex.fold (E:=E1) (b:=Vs) l (jD pl) []
  (fun j acc st=>∃ out L,st=Gy s l.length j out .u L false/\L[0]?=some (aK kk ps)/\L[s]?=some (.row 1 11 (l.map (Ar.d e)))/\gF L/\jE e s out L acc/\(∀ a ∈ acc,G j a.x)/\acc.length<=j)
  (fun acc r=>∃ out L,r=(.exit 0,Gy s l.length l.length out (.d (.v (.bool false))) L false)/\L[0]?=some (aK kk ps)/\gF L/\jE e s out L acc/\(∀ a ∈ acc,G l.length a.x)/\acc.length<=l.length)
  (fun j x st hx ⟨out,L,hst,g0,gs,gJ,g1,g2,g3⟩=>by
   subst hst;have hj:j<l.length:=(aT hx)
   have hgx:=hg x (List.mem_of_getElem? hx);generalize hacc:(l.take j).foldl (jD pl) []=acc at*;have hq:∀ y ∈ jD pl acc x,G (j+1) y.x:=Jp pl x (fun a=>G j a.x) (fun a=>G (j+1) a.x) (hW.le hgx (by omega)) (fun y h=>hW.mono _ _ h) (fun y h=>hW.pg _ _ _ (by omega) h hgx) acc g2;have hlen:=Jq pl x acc
   by_cases hy:∃ q y,acc=q++[y]/\uO y x
   ·obtain⟨q,y,rfl,he⟩:=hy;have e1:jD pl (q++[y]) x=q++[iQ pl y x]:=by rw[jX,if_pos he]
    rw[e1]at hq hlen ⊢;simp only[List.length_append,List.length_singleton]at g3;obtain⟨L',k1,k2,k3,k4,k5⟩:=Vu kk ps s l.length j out L false q l pl x y g0 gs rfl hl hx g1 (by omega) ((uP y x).2 he) (hW.p1 j y.x x.x (by omega) (g2 y (by simp)) hgx);exact⟨_,k1,out,L',rfl,k2,k3,k5 gJ,k4,hq,by simp;omega⟩
   ·have hno:∀ y,acc.getLast?=some y->¬ uO y x:=by
     intro y h1 h2;obtain⟨q,h3⟩:=List.getLast?_eq_some_iff.1 h1;exact hy ⟨q,y,h3,h2⟩
    have e1:jD pl acc x=acc++[x]:=by
     rcases List.eq_nil_or_concat acc with rfl|⟨q,y,rfl⟩
     ·rfl
     ·rw[List.concat_eq_append]at*;rw[jX,if_neg (hno y (by simp))]
    rw[e1]at hq hlen ⊢;obtain⟨out',L',k1,k2,k3,k4,k5⟩:=Zb kk ps s l.length j out L false acc l x z g0 gs rfl hl hx g1 (by omega) (fun y h1 h2=>hno y h1 ((uP y x).1 h2)) hW.zero (hW.pz x.x hgx);exact⟨_,k1,out',L',rfl,k2,k3,k5 gJ,k4,hq,by simp;omega⟩)
  (fun st ⟨out,L,hst,g0,gs,gJ,g1,g2,g3⟩=>by
   subst hst;refine⟨_,Ex.of (n:=60) (r:=(.exit 0,Gy s l.length l.length out (.d (.v (.bool false))) L false)) ?_,by simp,out,L,rfl,g0,gJ,g1,g2,g3⟩;unfold Gy;generalize l.length=n at*;simp -implicitDefEqProofs[Vs,f1064])
  (st:=Gy s l.length 0 (.d (.n 11)) .u L false) ⟨_,L,rfl,h0,hs,hJ,.inl ⟨rfl,rfl⟩,by simp,by simp⟩
 subst h2;rw[Vq]at h5 h6 h7;exact⟨out,L',h1,h3,h4,h5,fun a ha=>hW.mono _ _ (h6 a ha),h7⟩
theorem Js (B:List ae):∃ N,∀ m,CL E1 (N+m) 1101 [.d (.s 11 []),.d (.fn 1070)] B=some (.d (.t []),none):=by
 have w1:ak .i64 1=1:=wrap_i64 (by omega);have h1:∀ (B:List ae) m,CL E1 (m+100) 1208 [.d (.s 11 []),.d (.v (.int .i64 0)),.d (.v (.int .i64 0)),.d (.fn 1070)] B=some (.d (.t []),none):=by
  intro B m;rw[aA rfl (k1208:E1.fn _=_) rfl];simp -implicitDefEqProofs[f1208,aG,w1,mF,FV.aN,FV.az]
 have h2:∀ (B:List ae) m,CL E1 (m+300) 1138 [.d (.s 11 []),.d (.v (.int .i64 0)),.d (.fn 1070)] B=some (.d (.t []),none):=by
  intro B m;rw[aA rfl (k1138:E1.fn _=_) rfl];simp -implicitDefEqProofs[f1138,aG,h1,mF,FV.aN,FV.az]
 refine⟨500,fun m => ?_⟩;rw[show 500+m=m+500 by omega,aA rfl (k1101:E1.fn _=_) rfl];simp -implicitDefEqProofs[f1101,h2,mF,FV.aN,FV.az]
theorem Jt (B:List ae)(hB:gF B):∃ N,∀ m,CL E1 (N+m) 1102 [.d (.n 11),.f 1103 [] [.r (.old 0) 0]] B=some (.d (.n 11),none):=by
 obtain⟨N1,t1⟩:=Ap (α:=W) (e:=id) 1103 0 [] (fun _=>false) B hB (by simp) (fun a ha=>by cases ha);have hB':∀ n,List.map (ae.az n) B=B:=hB;refine⟨N1+200,fun m => ?_⟩;rw[show N1+200+m=(N1+m)+200 by omega,aA rfl (k1102:E1.fn _=_) rfl];replace t1:=fun k=>dM (t1 0) (show N1+0<=N1+m+k by omega)
 simp only[List.map_nil,List.findIdx?_nil]at t1;simp -implicitDefEqProofs[f1102,t1,hB',FV.az,FV.aN]
end
section
variable {α:Type} {e:α->W} {pl:α->α->α} {z:W} {eQ:α->Bool} {G:Nat->α->Prop} {m:Nat} {kk:Int} {ps:List Int}
theorem Rj (s:Nat)(v8:FV)(n:Nat)(out:FV)(L:List ae)(aq:List (Ar α))(hJ:gF L)(h0:L[0]?=some (aK kk ps))(ho:jE e s out L aq)(hn:aq.length<=1000000)
  (hz:∀ a ∈ aq,Ca E1 1104 [.d (bG kk ps),.d (e a.x).d] (.d (.v (.bool (eQ a.x))),none)) :
  ∃ st,Ex E1 f1064.body.r.r.r.r.r (st0 [.u,.u,.r (.loc 0) 0,.u,.u,out,.u,.u,v8,.d (.v (.int .i64 n)),.d (.v (.int .i64 n)),.d (.v (.bool false)),.u] L) (.ret,st) /\
   finish f1064 st=some (.d (.s 11 ((aq.filter fun a => !eQ a.x).map (Ar.d e))),none):=by
 have hJ0:List.map (ae.az 0) L=L:=hJ 0;rcases ho with ⟨rfl,rfl⟩|⟨i,av,_,rfl,hrow⟩
 ·obtain⟨N,t⟩:=Jt L hJ;refine⟨(st0 [.u,.u,.u,.d (.n 11),.u,.u,.u,.u,.u,.u,.u,.u,.u] L),Ex.of (n:=N+100) ?_,?_⟩
  ·simp -implicitDefEqProofs[f1064,t,hJ0,FV.az,FV.aN]
  ·simp[show f1064.res=[.var 3] from rfl,show f1064.ref=false from rfl]
 ·have hi0:i≠0:=fun h=>by subst h;rw[h0]at hrow;cases hrow
  obtain⟨r,N,t,row,J,rfl,h1,h2⟩:=MN i av 0 kk ps L hJ hi0 h0 aq hn eQ hrow hz;have hi:i<L.length:=(aT hrow)
  generalize hk:aq.filter (fun a => !eQ a.x)=ks at*;have hg:(L.set i (.row av 11 row)++J)[i]?=some (.row av 11 row):=by
   rw[List.getElem?_append_left (by simpa using hi)];exact List.getElem?_set_self hi
  generalize L.set i (.row av 11 row)++J=L2 at*;refine⟨(st0 [.u,.u,.u,.ls (.loc i) av 11 0 ks.length,.u,.u,.u,.u,.u,.u,.u,.u,.u] L2),Ex.of (n:=N+100) ?_,?_⟩
  ·generalize aq.length=n2,ks.length=n3 at*;simp -implicitDefEqProofs[f1064,t,hJ0,FV.az,FV.aN]
  ·have h9:ae.view av 11 0 ks.length (.row av 11 row)=some (ks.map (Ar.d e)):=by
    have h2':0+ks.length<=row.length:=by omega
    simp only[ae.view,h2',and_self,if_true,List.drop_zero,h1]
   simp[show f1064.res=[.var 3] from rfl,show f1064.ref=false from rfl,hg,h9]
theorem Vx (hW:KN kk ps e pl z eQ G m)(l:List (Ar α))(hl:l.length<20)(hm:l.length<m)(hg:∀ a ∈ l,G 1 a.x) :
  Ca E1 1064 [.d (bG kk ps),.d (.s 11 (l.map (Ar.d e)))] (.d (.s 11 (((dU pl l).filter fun a => !eQ a.x).map (Ar.d e))),none):=by
 have sA:Ex E1 f1064.body.l (st0 [.d (bG kk ps),.d (.s 11 (l.map (Ar.d e))),.u,.u,.u,.u,.u,.u,.u,.u,.u,.u,.u] [])
   (.norm,(st0 [.u,.d (.s 11 (l.map (Ar.d e))),.r (.loc 0) 0,.u,.u,.u,.u,.u,.u,.u,.u,.u,.u] [aK kk ps])):=by
  refine Ex.of (n:=60) ?_;unfold bG aK;simp -implicitDefEqProofs[f1064]
 have hrg:∀ n,ae.az n (aK kk ps)=aK kk ps:=kM [.v (.int .i64 kk),.s 1 (LK .i64 ps)];cases hl0:l with
 | nil =>
  obtain⟨N,t⟩:=Js [aK kk ps];have tc:∀ k,CL E1 k 1100 [.d (.s 11 [])] [aK kk ps]=some (.d (.s 11 []),none):=fun k=>by
   rw[pQ (p:=o8 11) rfl (WX:E1.fn _=_) rfl];rfl
  obtain⟨st,h7,h8⟩:=Rj (e:=e) (eQ:=eQ) 0 (.d (.s 11 [])) 0 (.d (.n 11)) [aK kk ps] [] (gF.one hrg) rfl (.inl ⟨rfl,rfl⟩) (by simp) (by simp);rw[hl0]at sA;have sB:Ex E1 (.seq f1064.body.r.l (.seq f1064.body.r.r.l (.seq f1064.body.r.r.r.l (.seq f1064.body.r.r.r.r.l f1064.body.r.r.r.r.r)))) (st0 [.u,.d (.s 11 []),.r (.loc 0) 0,.u,.u,.u,.u,.u,.u,.u,.u,.u,.u] [aK kk ps]) (.ret,st):=by
   refine Ex.seq (st1:=(st0 [.u,.u,.r (.loc 0) 0,.u,.d (.s 11 []),.u,.u,.u,.u,.u,.u,.u,.u] [aK kk ps])) ?_ (Ex.seq (st1:=(st0 [.u,.u,.r (.loc 0) 0,.u,.d (.s 11 []),.u,.u,.u,.u,.u,.u,.u,.u] [aK kk ps])) ?_ (Ex.seq (st1:=(st0 [.u,.u,.r (.loc 0) 0,.u,.d (.s 11 []),.d (.n 11),.u,.u,.u,.u,.u,.u,.u] [aK kk ps])) ?_ (Ex.seq ?_ h7)))
   ·refine Ex.of (n:=60) ?_;generalize aK kk ps=rb at*;simp -implicitDefEqProofs[f1064,tc,hrg,FV.az,FV.aN]
   ·refine Ex.of (n:=N+60) ?_;generalize aK kk ps=rb at*;simp -implicitDefEqProofs[f1064,t,hrg,FV.az,FV.aN]
   ·refine Ex.of (n:=60) ?_;simp -implicitDefEqProofs[f1064]
   ·refine Ex.of (n:=60) ?_;simp -implicitDefEqProofs[f1064,aG]
  exact Ca.body (o:=.ret) rfl (k1064:E1.fn _=_) rfl (sA.seq sB) (by simp) h8
 | cons a0 l0 =>
  rw[<-hl0];have hne:0<l.length:=by rw[hl0];simp
  clear hl0;have hel:(l.map (Ar.d e)).length=l.length:=by simp
  have tc:∀ k,CL E1 k 1100 [.d (.s 11 (l.map (Ar.d e)))] [aK kk ps]=some (.ls (.old 1) 1 11 0 l.length,some [aK kk ps,.row 1 11 (l.map (Ar.d e))]):=fun k=>by
   rw[pQ (p:=o8 11) rfl (WX:E1.fn _=_) rfl];have hle:(l.map (Ar.d e)).length<=1000000:=by omega
   cases hm:l.map (Ar.d e) with
   | nil=>rw[hm]at hel;simp at hel;omega
   | cons d ds =>
    rw[hm]at hel hle;have hl2:l.length<=1000000:=by omega
    simp only[o8,hel,hl2,and_self,if_true];simp[hrg]
  obtain⟨r,N,t0,hr⟩:=ML 1 1 [aK kk ps,.row 1 11 (l.map (Ar.d e))] l rfl (fun n=>by simp only[List.map_cons,List.map_nil,hrg,l_]) hl;have t:∀ k,CL E1 (N+k) 1101 [.ls (.old 1) 1 11 0 l.length,.d (.fn 1070)] [aK kk ps,.row 1 11 (l.map (Ar.d e))]=some r:=fun k=>by
   have:=t0 k;rw[iV]at this ⊢;exact pU sO (uG sO _) this
  obtain⟨out,L,h1,h2,h3,h4,h5,h6⟩:=Vw hW (a_ l) (by rw[jW];omega) (by rw[jW];omega) (fun a ha=>hg a (Gx ha)) 1 [aK kk ps,.row 1 11 ((a_ l).map (Ar.d e))] (fun n=>by simp only[List.map_cons,List.map_nil,hrg,l_]) rfl rfl;rw[jW]at h1 h5 h6;rw[Vp]at h4 h5 h6;obtain⟨st,h7,h8⟩:=Rj (eQ:=eQ) 1 (.ls (.loc 1) 1 11 0 l.length) l.length out L (dU pl l) h3 h2 h4 (by omega) (fun a ha=>hW.z1 _ _ (by omega) (h5 a ha));have sB:Ex E1 f1064.body.r.l (st0 [.u,.d (.s 11 (l.map (Ar.d e))),.r (.loc 0) 0,.u,.u,.u,.u,.u,.u,.u,.u,.u,.u] [aK kk ps])
    (.norm,(st0 [.u,.u,.r (.loc 0) 0,.u,.ls (.loc 1) 1 11 0 l.length,.u,.u,.u,.u,.u,.u,.u,.u] [aK kk ps,.row 1 11 (l.map (Ar.d e))])):=by
   refine Ex.of (n:=60) ?_;clear h1 h7 h8 h4 sA hel;generalize l.map (Ar.d e)=es,l.length=n,aK kk ps=rb at*;simp -implicitDefEqProofs[f1064,tc,hrg,FV.az,FV.aN]
  have sC:Ex E1 f1064.body.r.r.l (st0 [.u,.u,.r (.loc 0) 0,.u,.ls (.loc 1) 1 11 0 l.length,.u,.u,.u,.u,.u,.u,.u,.u] [aK kk ps,.row 1 11 (l.map (Ar.d e))])
    (.norm,(st0 [.u,.u,.r (.loc 0) 0,.u,.ls (.loc 1) 1 11 0 l.length,.u,.u,.u,.u,.u,.u,.u,.u] [aK kk ps,.row 1 11 ((a_ l).map (Ar.d e))])):=by
   refine Ex.of (n:=N+60) ?_;clear h1 h7 h8 h4 sA sB hel;rcases hr with ⟨rfl,hs⟩|rfl
   ·rw[hs];clear hs;generalize l.map (Ar.d e)=es,l.length=n,aK kk ps=rb at*;simp -implicitDefEqProofs[f1064,t,hrg,l_,FV.az,FV.aN]
   ·generalize l.map (Ar.d e)=es at*;generalize (a_ l).map (Ar.d e)=es2,l.length=n,aK kk ps=rb at*;simp -implicitDefEqProofs[f1064,t,hrg,l_,FV.az,FV.aN]
  have sD:Ex E1 f1064.body.r.r.r.l (st0 [.u,.u,.r (.loc 0) 0,.u,.ls (.loc 1) 1 11 0 l.length,.u,.u,.u,.u,.u,.u,.u,.u] [aK kk ps,.row 1 11 ((a_ l).map (Ar.d e))])
    (.norm,(st0 [.u,.u,.r (.loc 0) 0,.u,.ls (.loc 1) 1 11 0 l.length,.d (.n 11),.u,.u,.u,.u,.u,.u,.u] [aK kk ps,.row 1 11 ((a_ l).map (Ar.d e))])):=by
   refine Ex.of (n:=60) ?_;generalize l.length=n at*;simp -implicitDefEqProofs[f1064]
  have sE:Ex E1 f1064.body.r.r.r.r.l.l (st0 [.u,.u,.r (.loc 0) 0,.u,.ls (.loc 1) 1 11 0 l.length,.d (.n 11),.u,.u,.u,.u,.u,.u,.u] [aK kk ps,.row 1 11 ((a_ l).map (Ar.d e))])
    (.norm,Gy 1 l.length 0 (.d (.n 11)) .u [aK kk ps,.row 1 11 ((a_ l).map (Ar.d e))] false):=by
   refine Ex.of (n:=60) ?_;unfold Gy;generalize l.length=n at*;simp -implicitDefEqProofs[f1064]
  exact Ca.body (o:=.ret) rfl (k1064:E1.fn _=_) rfl (sA.seq (sB.seq (sC.seq (sD.seq (Ex.seq (sE.seq (Ex.block h1)) h7))))) (by simp) h8
end
end Fi.S
