import Derived.Test.YtkekcmgkpdkieaaGreatDoorCQ
set_option linter.unusedVariables false
set_option linter.unusedSimpArgs false
noncomputable section
namespace Fi.S
open Go Fi
set_option maxHeartbeats 8000000
section
variable {α:Type} {e:α->W}
def Da (e:α->W)(s:Nat)(out:FV)(L:List ae)(aq:List (Ar α)):Prop:=(out=.d (.n 11)/\aq=[])\/∃ i az,i≠s/\out=.ls (.loc i) az 11 0 aq.length/\L[i]?=some (.row az 11 (aq.map (Ar.d e)))
def iI (J:List ae):Prop:=∀ n,J.map (ae.aA n)=J
theorem iI.add {J X:List ae}(h:iI J)(hx:iI X):iI (J++X):=fun n=>by rw[Qq0,h,hx]
theorem iI.put {J:List ae}(h:iI J)(i:Nat){r:ae}(hr:∀ n,ae.aA n r=r):iI (J.set i r):=fun n=>by rw[Qz2,h,hr]
theorem iI.one {r:ae}(hr:∀ n,ae.aA n r=r):iI [r]:=fun n=>by simp[hr]
theorem nC (az sz:Nat)(es:List D)(n:Nat):ae.aA n (.row az sz es)=.row az sz es:=rfl
theorem mf (cs:List D)(n:Nat):ae.aA n (.box (cs.map .d))=.box (cs.map .d):=by simp[ae.aA,eO,FV.aA,Function.comp_def]
def aU (kk:Int)(ps:List Int):ae:=.box [.d (.v (.int .i64 kk)),.d (.s 1 (LK .i64 ps))]
def Zh:aG:=f1064.body.r.r.r.r.l.r.bl.lp
def JW (s n j:Nat)(out t:FV)(L:List ae)(dt:Bool):St :=
 {vars:=[.u,.u,.r (.loc 0) 0,.u,.u,out,.u,.u,.ls (.loc s) 1 11 0 n,.d (.v (.int .i64 n)),.d (.v (.int .i64 j)),t,.u],base:=[],loc:=L,aP:=dt}
theorem afQ (e:α->W)(a b:Ar α):Ca E1 1070 [.d (a.d e),.d (b.d e)] (.d (.v (.int .i64 (ng a b))),none):=Ca.fP (Ca.bO (xk e 0 a b))
theorem acV (kk:Int)(ps:List Int)(s n j:Nat)(out:FV)(L:List ae)(dt:Bool)(aq sl:List (Ar α))(x:Ar α)(z:W)(h0:L[0]?=some (aU kk ps))(hs:L[s]?=some (.row 1 11 (sl.map (Ar.d e))))(hsl:sl.length=n)(hn:n<=1000000)
  (hx:sl[j]?=some x) (ho:Da e s out L aq) (has:aq.length<=1000000) (hno:∀ y,aq.getLast?=some y->ng y x≠0)
  (hz:Ca E1 26 [.d (bA kk ps)] (.d z.d,none)) (hp:Ca E1 14 [.d (bA kk ps),.d (e x.x).d,.d z.d] (.d (e x.x).d,none)) :
  ∃ out' L' ,Ex E1 Zh (JW s n j out .u L dt) (.norm,JW s n (j+1) out' .u L' dt)/\L'[0]?=some (aU kk ps)/\L'[s]?=some (.row 1 11 (sl.map (Ar.d e)))/\Da e s out' L' (aq++[x])/\(iI L->iI L'):=by
 obtain⟨N1,t1⟩:=hz.any;obtain⟨N2,t2⟩:=hp.any;have hj:j<sl.length:=(bD hx)
 have hjn:(j:Int)<(n:Int):=by omega
 have hj0:(0:Int)<=(j:Int):=by omega
 have bz:ah .i64 ((j:Int)+1)=(j:Int)+1:=wrap_i64 omK;have hk1:((j+1:Nat):Int)=(j:Int)+1:=by omega
 have e1:(sl.map (Ar.d e))[j]?=some (x.d e):=by simp[hx]
 have l0:0<L.length:=(bD h0)
 have ls:s<L.length:=(bD hs)
 have g0:∀ X,(L++X)[0]?=some (aU kk ps):=fun X=>by rw[Qa1 l0];exact h0
 have gs:∀ X,(L++X)[s]?=some (.row 1 11 (sl.map (Ar.d e))):=fun X=>by rw[Qa1 ls];exact hs
 have sA:∀ b b':ae,(L++[b]).set L.length b'=L++[b']:=fun b b'=>by simp
 rcases ho with ⟨rfl,rfl⟩|⟨i,az,his,rfl,hrow⟩
 ·obtain⟨K,hK⟩:∃ K,K=N1+N2:=⟨_,rfl⟩
  replace t1:=t1 K omK;replace t2:=t2 K omK;obtain⟨xs,l1,l2,c,b,u,p,q,ew,ex⟩:=x.jD e;obtain⟨zs,GA,GD,zc,zb,zu,zp,Ik,ez⟩:=z.aN;refine⟨.ls (.loc (L.length+1)) 0 11 0 1,L++[.box ((x.d e).cells.map .d),.row 0 11 [x.d e]],?_,g0 _,gs _,.inr ⟨L.length+1,0,by omega,rfl,by rw[Qc1 omK];simp⟩,fun hJ=>hJ.add (iI.add (J:=[_]) (X:=[_]) (iI.one (mf _)) (iI.one (nC _ _ _)))⟩;simp only[ex,ez,ew]at t1 t2 e1 gs hs ⊢;clear ew ex ez hno hp hz;unfold aU bA wD yO at*;generalize LK .i64 ps=l9,sl.map (Ar.d e)=es at*;have i0:=idx e1;have j0:=fun X=>idx (g0 X)
  have js:=fun X=>idx (gs X)
  have qQ:j<es.length:=(bD e1)
  refine Ex.of (n:=K+300) ?_;unfold JW;rw[hk1];simp -implicitDefEqProofs[Zh,f1064,t1,t2,hj0,hjn,qQ,bz,i0,j0,hs,sA,most]
 ·rcases Xa1 aq with rfl|⟨q,y,rfl⟩
  ·-- an empty row
   obtain⟨K,hK⟩:∃ K,K=N1+N2:=⟨_,rfl⟩
   replace t1:=t1 K omK;replace t2:=t2 K omK;have hi0:i≠0:=fun h=>by subst h;rw[h0]at hrow;cases hrow
   have li:i<L.length:=(bD hrow)
   have gi:∀ X,(L++X)[i]?=some (.row az 11 []):=fun X=>by rw[Qa1 li];exact hrow
   have si:∀ X r,(L++X).set i r=L.set i r++X:=fun X r=>Xf0 _ _ li
   obtain⟨xs,l1,l2,c,b,u,p,q,ew,ex⟩:=x.jD e;obtain⟨zs,GA,GD,zc,zb,zu,zp,Ik,ez⟩:=z.aN;refine⟨.ls (.loc i) (az+1) 11 0 1,L.set i (.row (az+1) 11 [x.d e])++[.box ((x.d e).cells.map .d)],?_,?_,?_,.inr ⟨i,az+1,his,rfl,?_⟩,fun hJ=>(hJ.put i (nC _ _ _)).add (iI.one (mf _))⟩
   ·simp only[ex,ez,ew]at t1 t2 e1 gs hs ⊢;clear ew ex ez hno hp hz;unfold aU bA wD yO at*;generalize LK .i64 ps=l9,sl.map (Ar.d e)=es at*;have i0:=idx e1;have j0:=fun X=>idx (g0 X)
    have js:=fun X=>idx (gs X)
    have qQ:j<es.length:=(bD e1)
    refine Ex.of (n:=K+300) ?_;unfold JW;rw[hk1];simp -implicitDefEqProofs[Zh,f1064,t1,t2,hj0,hjn,qQ,bz,i0,j0,hs,sA,most,gi,si]
   ·rw[Qa1 (by simpa using l0),Qd0 hi0];exact h0
   ·rw[Qa1 (by simpa using ls),Qd0 his];exact hs
   ·rw[Qa1 (by simpa using li),Qf0 li];rfl
  ·obtain⟨N3,t3⟩:=(afQ e y x).any;obtain⟨K,hK⟩:∃ K,K=N1+N2+N3:=⟨_,rfl⟩
   replace t1:=t1 K omK;replace t2:=t2 K omK;replace t3:=t3 K omK;have hi0:i≠0:=fun h=>by subst h;rw[h0]at hrow;cases hrow
   have li:i<L.length:=(bD hrow)
   have afR:=hno y (by simp);have acW:(ng y x==0)=false:=by simpa using afR
   simp only[Q32]at*;have hlen:(q++[y]).length=q.length+1:=by simp
   rw[hlen]at has;have hcast:((q.length+1:Nat):Int)=(q.length:Int)+1:=by omega
   have hpos:(0:Int)<(q.length:Int)+1:=by omega
   have hq0:(0:Int)<=(q.length:Int):=by omega
   have hw1:ah .i64 (q.length:Int)=(q.length:Int):=wrap_i64 omK;have hq1:(q.length:Int)<(q.length:Int)+1:=by omega
   have ey:((q++[y]).map (Ar.d e))[q.length]?=some (y.d e):=by simp
   have hrl:((q++[y]).map (Ar.d e)).length=q.length+1:=by simp
   have gi:∀ X,(L++X)[i]?=some (.row az 11 ((q++[y]).map (Ar.d e))):=fun X=>by rw[Qa1 li];exact hrow
   have si:∀ X r,(L++X).set i r=L.set i r++X:=fun X r=>Xf0 _ _ li
   have tkr:((q++[y]).map (Ar.d e)).take (q.length+1)=(q++[y]).map (Ar.d e):=Qg0 (by simp);have m1:(q.length+1+1)*152<=1099511627776:=by omega
   have m2:q.length+1+1<=1099511627776:=by omega
   have hfin:(q++[y]++[x]).map (Ar.d e)=(q++[y]).map (Ar.d e)++[x.d e]:=by simp
   have EL:(q++[y]++[x]).length=q.length+1+1:=by simp
   refine⟨.ls (.loc i) (az+1) 11 0 (q.length+1+1),L.set i (.row (az+1) 11 ((q++[y]).map (Ar.d e)++[x.d e]))++[.box ((x.d e).cells.map .d)],?_,?_,?_,.inr ⟨i,az+1,his,by rw[EL],?_⟩,fun hJ=>(hJ.put i (nC _ _ _)).add (iI.one (mf _))⟩
   ·obtain⟨xs,l1,l2,c,b,u,p,ps',ew,ex⟩:=x.jD e;obtain⟨ys,yl1,yl2,yc,yb,yu,yp,yps,ew2,JN⟩:=y.jD e;obtain⟨zs,GA,GD,zc,zb,zu,zp,Ik,ez⟩:=z.aN;simp only[ex,ez,ew,JN]at t1 t2 t3 e1 ey ⊢;rw[hlen];generalize ng y x=od at*;clear ew ex ez ew2 JN hno hp hz hfin EL afR hlen;unfold aU bA wD yO at*;generalize LK .i64 ps=l9,sl.map (Ar.d e)=es,(q++[y]).map (Ar.d e)=es2,q.length=m at*;have i0:=idx e1;have j0:=fun X=>idx (g0 X)
    have js:=fun X=>idx (gs X)
    have i1:=idx ey;have qQ:j<es.length:=(bD e1)
    refine Ex.of (n:=K+300) ?_;unfold JW;rw[hk1];simp -implicitDefEqProofs[Zh,f1064,t1,t2,t3,hj0,hjn,qQ,bz,i0,j0,i1,hs,sA,most,gi,si,hpos,hq0,hw1,hq1,acW,hrl,tkr,m1,m2,hcast]
   ·rw[Qa1 (by simpa using l0),Qd0 hi0];exact h0
   ·rw[Qa1 (by simpa using ls),Qd0 his];exact hs
   ·rw[Qa1 (by simpa using li),Qf0 li,hfin]
theorem Zi (kk:Int)(ps:List Int)(s n j:Nat)(out:FV)(L:List ae)(dt:Bool)(q sl:List (Ar α))(pl:α->α->α)(x y:Ar α)(h0:L[0]?=some (aU kk ps))(hs:L[s]?=some (.row 1 11 (sl.map (Ar.d e))))(hsl:sl.length=n)(hn:n<=1000000)
  (hx:sl[j]?=some x) (ho:Da e s out L (q++[y])) (has:q.length<=1000000) (heq:ng y x=0) (hp:Ca E1 14 [.d (bA kk ps),.d (e y.x).d,.d (e x.x).d] (.d (e (pl y.x x.x)).d,none)) :
  ∃ L' ,Ex E1 Zh (JW s n j out .u L dt) (.norm,JW s n (j+1) out .u L' dt)/\L'[0]?=some (aU kk ps)/\L'[s]?=some (.row 1 11 (sl.map (Ar.d e)))/\Da e s out L' (q++[lK pl y x])/\(iI L->iI L'):=by
 obtain⟨N2,t2⟩:=hp.any;obtain⟨N3,t3⟩:=(afQ e y x).any;have hj:j<sl.length:=(bD hx)
 have hjn:(j:Int)<(n:Int):=by omega
 have hj0:(0:Int)<=(j:Int):=by omega
 have bz:ah .i64 ((j:Int)+1)=(j:Int)+1:=wrap_i64 omK;have hk1:((j+1:Nat):Int)=(j:Int)+1:=by omega
 have e1:(sl.map (Ar.d e))[j]?=some (x.d e):=by simp[hx]
 have l0:0<L.length:=(bD h0)
 have ls:s<L.length:=(bD hs)
 have g0:∀ X,(L++X)[0]?=some (aU kk ps):=fun X=>by rw[Qa1 l0];exact h0
 have gs:∀ X,(L++X)[s]?=some (.row 1 11 (sl.map (Ar.d e))):=fun X=>by rw[Qa1 ls];exact hs
 have sA:∀ b b':ae,(L++[b]).set L.length b'=L++[b']:=fun b b'=>by simp
 rcases ho with ⟨_,h⟩|⟨i,az,his,rfl,hrow⟩
 ·simp at h
 ·obtain⟨K,hK⟩:∃ K,K=N2+N3:=⟨_,rfl⟩
  replace t2:=t2 K omK;replace t3:=t3 K omK;rw[heq]at t3;have hi0:i≠0:=fun h=>by subst h;rw[h0]at hrow;cases hrow
  have li:i<L.length:=(bD hrow)
  have hlen:(q++[y]).length=q.length+1:=by simp
  have hcast:((q.length+1:Nat):Int)=(q.length:Int)+1:=by omega
  have hpos:(0:Int)<(q.length:Int)+1:=by omega
  have hq0:(0:Int)<=(q.length:Int):=by omega
  have hw1:ah .i64 (q.length:Int)=(q.length:Int):=wrap_i64 omK;have hq1:(q.length:Int)<(q.length:Int)+1:=by omega
  have ey:((q++[y]).map (Ar.d e))[q.length]?=some (y.d e):=by simp
  have hrl:((q++[y]).map (Ar.d e)).length=q.length+1:=by simp
  have gi:∀ X,(L++X)[i]?=some (.row az 11 ((q++[y]).map (Ar.d e))):=fun X=>by rw[Qa1 li];exact hrow
  have si:∀ X r,(L++X).set i r=L.set i r++X:=fun X r=>Xf0 _ _ li
  have hfin:(q++[lK pl y x]).map (Ar.d e)=((q++[y]).map (Ar.d e)).set q.length ((lK pl y x).d e):=by
   rw[Qq0,Qq0,Q40 _ _ (by simp)];simp
  refine⟨L.set i (.row az 11 (((q++[y]).map (Ar.d e)).set q.length ((lK pl y x).d e)))++[.box ((x.d e).cells.map .d)],?_,?_,?_,.inr ⟨i,az,his,by simp,?_⟩,fun hJ=>(hJ.put i (nC _ _ _)).add (iI.one (mf _))⟩
  ·obtain⟨xs,l1,l2,c,b,u,p,ps',ew,ex⟩:=x.jD e;obtain⟨ys,yl1,yl2,yc,yb,yu,yp,yps,ew2,JN⟩:=y.jD e;obtain⟨zs,GA,GD,zc,zb,zu,zp,Ik,ez,ex3⟩:=(lK pl y x).jD e;have OG:(e (pl y.x x.x)).d=wD zs GA GD zc zb zu zp Ik:=ez;simp only[ex,OG,ew,JN,ew2,ex3]at t2 t3 e1 ey ⊢;rw[hlen];have f1:(lK pl y x).f=y.f:=rfl;have f2:(lK pl y x).l=y.l:=rfl;have f3:(lK pl y x).t=y.t:=rfl;rw[f1,f2,f3];clear ew ex ez OG ew2 JN ex3 hp hfin hlen f1 f2 f3 heq;unfold aU bA wD yO at*;generalize LK .i64 ps=l9,sl.map (Ar.d e)=es,(q++[y]).map (Ar.d e)=es2,q.length=m at*;have i0:=idx e1;have j0:=fun X=>idx (g0 X)
   have js:=fun X=>idx (gs X)
   have i1:=idx ey;have qQ:j<es.length:=(bD e1)
   refine Ex.of (n:=K+300) ?_;unfold JW;rw[hk1];simp -implicitDefEqProofs[Zh,f1064,t2,t3,hj0,hjn,qQ,bz,i0,j0,i1,hs,sA,gi,si,hpos,hq0,hw1,hq1,hrl,hcast]
  ·rw[Qa1 (by simpa using l0),Qd0 hi0];exact h0
  ·rw[Qa1 (by simpa using ls),Qd0 his];exact hs
  ·rw[Qa1 (by simpa using li),Qf0 li,hfin]
end
section
variable {α:Type} {e:α->W}
theorem Vw (kk:Int)(ps:List Int)(x:Ar α)(b:Bool)(h:Ca E1 1104 [.d (bA kk ps),.d (e x.x).d] (.d (.v (.bool b)),none))(r0:Nat) :
  ∃ N,∀ B:List ae,B[r0]?=some (aU kk ps)->∀ m,CL E1 (N+m) 1103 [.d (x.d e),.r (.old r0) 0] B=some (.d (.v (.bool b)),none):=by
 obtain⟨N,t⟩:=h.get;refine⟨N+100,fun B hB m => ?_⟩;have l0:r0<B.length:=(bD hB)
 have gB:∀ X,(B++X)[r0]?=some (aU kk ps):=fun X=>by rw[Qa1 l0];exact hB
 obtain⟨s,l1,l2,c,i,u,p,q,ew,ex⟩:=x.jD e;rw[ew]at t;rw[ex];unfold aU bA wD yO at*;generalize LK .i64 ps=l9 at*;rw[show N+100+m=(N+m)+100 by omega,av rfl (k1103:E1.fn _=_) rfl];replace t:=fun k=>eP (t 0) (show N+0<=N+m+k by omega)
 simp -implicitDefEqProofs[f1103,t,gB]
def ixL:aG:=f1105.body.r.l.r.bl.lp
def R8 (g r0:Nat)(es:List D)(B:List ae)(j:Nat)(t:FV):St :=
 {vars:=[.d (.s 11 es),.f g [] [.r (.old r0) 0],.u,.u,.d (.v (.int .i64 es.length)),.d (.v (.int .i64 j)),t,.u],base:=B,loc:=[],aP:=false}
theorem Db (g r0:Nat)(aq:List (Ar α))(p:Ar α->Bool)(B:List ae)(hO:∀ n,B.map (ae.aA n)=B)(hn:aq.length<=1000000)(hc:∀ a ∈ aq,∃ N,∀ m,CL E1 (N+m) g [.d (a.d e),.r (.old r0) 0] B=some (.d (.v (.bool (p a))),none)) :
  ∃ N,∀ m,CL E1 (N+m) 1105 [.d (.s 11 (aq.map (Ar.d e))),.f g [] [.r (.old r0) 0]] B=some (.d (.v (.int .i64 (match aq.findIdx? p with|some j=>(j:Int)|none=>-1))),none):=by
 have hl:(aq.map (Ar.d e)).length=aq.length:=by simp
 have hloop:=Ex.xh (E:=E1) (b:=ixL) aq p (fun j=>R8 g r0 (aq.map (Ar.d e)) B j .u) (.exit 0,R8 g r0 (aq.map (Ar.d e)) B aq.length (.d (.v (.bool false)))) (fun j=>(.ret,{vars:=[.u,.u,.d (.v (.int .i64 j)),.u,.u,.u,.u,.u],base:=B,loc:=[],aP:=false})) (by simp) (by simp)
  (fun j a ha=>by
   obtain⟨N,t⟩:=hc a (Qa2 ha);have hj:j<aq.length:=(bD ha)
   have hjn:(j:Int)<(aq.length:Int):=by omega
   have hj0:(0:Int)<=(j:Int):=by omega
   have bz:ah .i64 ((j:Int)+1)=(j:Int)+1:=wrap_i64 omK;have hk1:((j+1:Nat):Int)=(j:Int)+1:=by omega
   have e1:(aq.map (Ar.d e))[j]?=some (a.d e):=by simp[ha]
   obtain⟨s,l1,l2,c,i,u,q,ps,_,ex⟩:=a.jD e;rw[ex]at t e1;unfold yO at*;generalize aq.map (Ar.d e)=es at*;have i0:=idx e1;generalize p a=pa at*;refine Ex.of (n:=N+100) ?_;have qQ:j<es.length:=(bD e1)
   have hjl:(j:Int)<(es.length:Int):=by omega
   unfold R8;cases pa
   ·rw[if_neg (by simp),hk1];simp -implicitDefEqProofs[ixL,f1105,t,hj0,hjn,qQ,hjl,bz,e1,i0,hO,FV.aA,FV.aR]
   ·rw[if_pos rfl];simp -implicitDefEqProofs[ixL,f1105,t,hj0,hjn,qQ,hjl,e1,i0,hO,FV.aA,FV.aR])
  (by
   refine Ex.of (n:=60) ?_;unfold R8;generalize aq.map (Ar.d e)=es at*;rw[<-hl];generalize es.length=n at*;simp -implicitDefEqProofs[ixL,f1105])
 have h0:Ex E1 f1105.body.l (R8 g r0 (aq.map (Ar.d e)) B 0 .u |> fun s=>{s with vars:=[.d (.s 11 (aq.map (Ar.d e))),.f g [] [.r (.old r0) 0],.u,.u,.u,.u,.u,.u]}) (.norm,R8 g r0 (aq.map (Ar.d e)) B 0 .u |> fun s=>{s with vars:=[.d (.s 11 (aq.map (Ar.d e))),.f g [] [.r (.old r0) 0],.u,.u,.u,.u,.u,.u]}):=by
  refine Ex.of (n:=60) ?_;unfold R8;simp -implicitDefEqProofs[f1105]
 have h1:Ex E1 f1105.body.r.l.l (R8 g r0 (aq.map (Ar.d e)) B 0 .u |> fun s=>{s with vars:=[.d (.s 11 (aq.map (Ar.d e))),.f g [] [.r (.old r0) 0],.u,.u,.u,.u,.u,.u]}) (.norm,R8 g r0 (aq.map (Ar.d e)) B 0 .u):=by
  refine Ex.of (n:=60) ?_;unfold R8;simp -implicitDefEqProofs[f1105]
 cases hf:aq.findIdx? p with
 | some j =>
  rw[hf]at hloop;exact pM (E:=E1) (g:=1105) (F:=f1105) (B:=B) rfl (k1105:E1.fn _=_) rfl (Ex.seq h0 (Ex.dG (Ex.seq h1 (Ex.b_ hloop)))) (by simp) (by simp[finish,lL,F9,show f1105.res=[.var 2] from rfl,show f1105.ref=false from rfl,fV,leaves,fZ,oneOf,jZ,D.norm,FV.rows,FV.ni,aK])
 | none =>
  rw[hf]at hloop;have h2:Ex E1 f1105.body.r.r (R8 g r0 (aq.map (Ar.d e)) B aq.length (.d (.v (.bool false)))) (.ret,{vars:=[.u,.u,.d (.v (.int .i64 (-1))),.u,.u,.u,.u,.u],base:=B,loc:=[],aP:=false}):=by
   refine Ex.of (n:=60) ?_;unfold R8;simp -implicitDefEqProofs[f1105]
  exact pM (E:=E1) (g:=1105) (F:=f1105) (B:=B) rfl (k1105:E1.fn _=_) rfl (Ex.seq h0 (Ex.seq (Ex.seq h1 (Ex.block hloop)) h2)) (by simp) (by simp[finish,lL,F9,show f1105.res=[.var 2] from rfl,show f1105.ref=false from rfl,fV,leaves,fZ,oneOf,jZ,D.norm,FV.rows,FV.ni,aK])
end
section
variable {α:Type} {e:α->W}
def arZ:D:=yO 0 0 0 false [] [] 0 false 0 [] []
def deL:aG:=f1102.body.r.r.r.l.r.bl.lp
def R9 (o az r0 n:Nat)(B:List ae)(R:List D)(J:List ae)(i j:Nat)(t:FV)(dt:Bool):St :=
 {vars:=[.ls (.old o) az 11 0 n,.f 1103 [] [.r (.old r0) 0],.u,.d (.v (.int .i64 i)),.d (.v (.int .i64 j)),.u,.u,t,.u],base:=B.set o (.row az 11 R),loc:=J,aP:=dt}
theorem Vx (o az r0 n:Nat)(kk:Int)(ps:List Int)(B:List ae)(hO:iI B)(ho:o<B.length)(hor:o≠r0)(hB:B[r0]?=some (aU kk ps))(R:List (Ar α))(J:List ae)(hJ:iI J)(i j:Nat)(dt:Bool)(x:Ar α)(b:Bool)
  (hR:R.length=n) (hn:n<=1000000) (hx:R[j]?=some x) (hij:i<j) (hz:Ca E1 1104 [.d (bA kk ps),.d (e x.x).d] (.d (.v (.bool b)),none)) :
  ∃ J' Eh,iI J'/\Ex E1 deL (R9 o az r0 n B (R.map (Ar.d e)) J i j .u dt) (.norm,R9 o az r0 n B (if b then R.map (Ar.d e) else(R.set i x).map (Ar.d e)) J' (if b then i else i+1) (j+1) .u Eh):=by
 obtain⟨N,tz⟩:=Vw kk ps x b hz r0;have hj:j<R.length:=(bD hx)
 obtain⟨y,hy⟩:∃ y,R[i]?=some y:=⟨_,Qa0 omK⟩
 have hjn:(j:Int)<(n:Int):=by omega
 have hj0:(0:Int)<=(j:Int):=by omega
 have hin:(i:Int)<(n:Int):=by omega
 have hi0:(0:Int)<=(i:Int):=by omega
 have bz:ah .i64 ((j:Int)+1)=(j:Int)+1:=wrap_i64 omK;have afS:ah .i64 ((i:Int)+1)=(i:Int)+1:=wrap_i64 omK;have hk1:((j+1:Nat):Int)=(j:Int)+1:=by omega
 have hk2:((i+1:Nat):Int)=(i:Int)+1:=by omega
 have e1:(R.map (Ar.d e))[j]?=some (x.d e):=by simp[hx]
 have e2:(R.map (Ar.d e))[i]?=some (y.d e):=by simp[hy]
 have e3:(R.set i x).map (Ar.d e)=(R.map (Ar.d e)).set i (x.d e):=by rw[Qz2]
 have t:∀ X m,CL E1 (N+m) 1103 [.d (x.d e),.r (.old r0) 0] (B.set o (.row az 11 (R.map (Ar.d e)))++X)=some (.d (.v (.bool b)),none):=fun X m =>
  tz _ (by rw[Qa1 (by rw[Xi0];exact(bD hB)),Qd0 hor];exact hB) m
 have hO1:∀ m,(B.set o (.row az 11 (R.map (Ar.d e)))).map (ae.aA m)=B.set o (.row az 11 (R.map (Ar.d e))):=fun m=>by rw[Qz2,hO];rfl
 have hset:∀ r,(B.set o (.row az 11 (R.map (Ar.d e)))).set o r=B.set o r:=fun r=>List.set_set ..
 have hg:∀ X,(B.set o (.row az 11 (R.map (Ar.d e)))++X)[o]?=some (.row az 11 (R.map (Ar.d e))):=fun X=>by rw[Qa1 (by simpa using ho)];exact Qf0 ho
 have hol:o<(B.set o (.row az 11 (R.map (Ar.d e)))).length:=by simpa using ho
 have sA:∀ c c':ae,(J++[c]).set J.length c'=J++[c']:=fun c c'=>by simp
 have hJ2:iI (J++[.box ((x.d e).cells.map .d)]):=by
  intro m;rw[Qq0,hJ];simp[ae.aA,eO,FV.aA,Function.comp_def]
 refine⟨J++[.box ((x.d e).cells.map .d)],if b then dt else true,hJ2,?_⟩;obtain⟨s,l1,l2,c,b',u,p,q,_,ex⟩:=x.jD e;obtain⟨s2,m1,m2,c2,b2,u2,p2,q2,_,ey⟩:=y.jD e;rw[e3];simp only[ex,ey]at t e1 e2 ⊢;clear ex ey hx hy hz tz hJ2 e3;unfold yO at*;have hjd:(R.map (Ar.d e)).length=n:=by simpa using hR
 generalize R.map (Ar.d e)=es at*;have i0:=idx e1;have i1:=idx e2;have qQ:j<es.length:=(bD e1)
 have hie:i<es.length:=(bD e2)
 unfold R9;have i2:=fun X=>idx (hg X)
 refine Ex.of (n:=N+200) ?_;have hl1:¬ B.length<=o:=by omega
 cases b
 ·simp only[Qi0,if_false];rw[hk1,hk2];simp -implicitDefEqProofs[deL,f1102,t,hj0,hjn,hi0,hin,qQ,hie,bz,afS,i0,i1,hg,hO1,ho,sA,hset,FV.aA,FV.aR,ae.aA]
 ·simp only[if_true];rw[hk1];simp -implicitDefEqProofs[deL,f1102,t,hj0,hjn,qQ,bz,i0,hg,hO1,sA,FV.aA,FV.aR,ae.aA]
theorem Zj (o az r0 n:Nat)(B:List ae)(R:List D)(J:List ae)(i:Nat)(dt:Bool):Ex E1 deL (R9 o az r0 n B R J i n .u dt) (.exit 0,R9 o az r0 n B R J i n (.d (.v (.bool false))) dt):=by
 refine Ex.of (n:=60) ?_;unfold R9;simp -implicitDefEqProofs[deL,f1102]
theorem GX (o az r0:Nat)(kk:Int)(ps:List Int)(B:List ae)(hO:iI B)(ho:o<B.length)(hor:o≠r0)(hB:B[r0]?=some (aU kk ps))(aq:List (Ar α))(hn:aq.length<=1000000)(fo:α->Bool)
  (hz:∀ a ∈ aq,Ca E1 1104 [.d (bA kk ps),.d (e a.x).d] (.d (.v (.bool (fo a.x))),none)) :
  ∀ (d j i:Nat) (R:List (Ar α)) (J:List ae) (dt:Bool),j+d=aq.length->i<j->R.length=aq.length->R.take i=(aq.take j).filter (fun a => !fo a.x)->R.drop j=aq.drop j->iI J ->
   ∃ (R':List (Ar α)) (J':List ae) (i':Nat) (Eh:Bool),Ex E1 (.loop deL) (R9 o az r0 aq.length B (R.map (Ar.d e)) J i j .u dt) (.exit 0,R9 o az r0 aq.length B (R'.map (Ar.d e)) J' i' aq.length (.d (.v (.bool false))) Eh) /\
    R'.length=aq.length/\R'.take i'=aq.filter (fun a => !fo a.x)/\i'<aq.length/\iI J'
 | 0,j,i,R,J,dt,hj,hij,hR,ht,_,hJ=>by
  obtain rfl:j=aq.length:=by omega
  rw[Qn1]at ht;exact⟨R,J,i,dt,Ex.leave (Zj ..) (by simp),hR,ht,hij,hJ⟩
 | d+1,j,i,R,J,dt,hj,hij,hR,ht,hd,hJ=>by
  have hlt:j<aq.length:=by omega
  have hxa:aq[j]?=some aq[j]:=Qa0 hlt;have hx:R[j]?=some aq[j]:=by
   have:(R.drop j)[0]?=(aq.drop j)[0]?:=by rw[hd]
   rw[Qx2,Qx2,Q70,hxa]at this;exact this
  obtain⟨J',Eh,hJ',hr⟩:=Vx o az r0 aq.length kk ps B hO ho hor hB R J hJ i j dt aq[j] (fo aq[j].x) hR hn hx hij (hz _ (Qi2 hlt));have hf:(aq.take (j+1)).filter (fun a => !fo a.x)=(aq.take j).filter (fun a => !fo a.x)++(if fo aq[j].x then [] else [aq[j]]):=by
   rw[Qp2 hlt,List.filter_append];cases h:fo aq[j].x<;>simp[h]
  have hd2:R.drop (j+1)=aq.drop (j+1):=by
   have:=congrArg (List.drop 1) hd
   rwa [Xq2,Xq2]at this
  cases hb:fo aq[j].x with
  | true =>
   rw[hb]at hr hf;simp only[if_true]at hr hf;obtain⟨R',J2,i',dt2,h1,h2⟩:=GX o az r0 kk ps B hO ho hor hB aq hn fo hz d (j+1) i R J' Eh omK omK hR (by rw[hf,Q91];exact ht) hd2 hJ';exact⟨R',J2,i',dt2,hr.next h1,h2⟩
  | false =>
   rw[hb]at hr hf;simp only[Qi0,if_false]at hr hf;obtain⟨R',J2,i',dt2,h1,h2⟩:=GX o az r0 kk ps B hO ho hor hB aq hn fo hz d (j+1) (i+1) (R.set i aq[j]) J' Eh omK omK (by simpa using hR) (by
     rw[hf,<-ht,Qp2 (by simp;omega)];simp[List.take_set_of_le]) (by rw[List.drop_set_of_lt omK];exact hd2) hJ'
   exact⟨R',J2,i',dt2,hr.next h1,h2⟩
def deleted (e:α->W)(o az:Nat)(B:List ae)(aq:List (Ar α))(r:FV × Option (List ae)):Prop :=
 ∃ row J,r=(.ls (.old o) az 11 0 aq.length,some (B.set o (.row az 11 row)++J))/\row.take aq.length=aq.map (Ar.d e)/\aq.length<=row.length
theorem QL (o az r0:Nat)(kk:Int)(ps:List Int)(B:List ae)(hO:iI B)(hor:o≠r0)(hB:B[r0]?=some (aU kk ps))(aq:List (Ar α))(hn:aq.length<=1000000)(fo:α->Bool)
  (hBo:B[o]?=some (.row az 11 (aq.map (Ar.d e)))) (hz:∀ a ∈ aq,Ca E1 1104 [.d (bA kk ps),.d (e a.x).d] (.d (.v (.bool (fo a.x))),none)) :
  ∃ r N,(∀ m,CL E1 (N+m) 1102 [.ls (.old o) az 11 0 aq.length,.f 1103 [] [.r (.old r0) 0]] B=some r)/\deleted e o az B (aq.filter fun a => !fo a.x) r:=by
 have ho:o<B.length:=(bD hBo)
 have hself:B.set o (.row az 11 (aq.map (Ar.d e)))=B:=by
  obtain⟨h,e'⟩:=Qu0.1 hBo;rw[<-e',List.set_getElem_self]
 have hOf:iI (B.set o (.gT az 11 (aq.map (Ar.d e)))):=fun n=>by rw[Qz2,hO];rfl
 obtain⟨N1,t1⟩:=Db (e:=e) 1103 r0 aq (fun a=>fo a.x) (B.set o (.gT az 11 (aq.map (Ar.d e)))) hOf hn (fun a ha=>by
  obtain⟨N,t⟩:=Vw kk ps a _ (hz a ha) r0;exact⟨N,t _ (by rw[Qd0 hor];exact hB)⟩)
 have hset:∀ r,(B.set o (.row az 11 (aq.map (Ar.d e)))).set o r=B.set o r:=fun r=>List.set_set ..
 have vw:(ae.row az 11 (aq.map (Ar.d e))).view az 11 0 aq.length=some (aq.map (Ar.d e)):=by
  have:List.take aq.length (aq.map (Ar.d e))=aq.map (Ar.d e):=Qg0 (by simp);simp[ae.view,this]
 cases hf:aq.findIdx? (fun a=>fo a.x) with
 | none =>
  have hall:aq.filter (fun a => !fo a.x)=aq:=by
   rw[X20];intro a ha;have:=Xa0.1 hf a ha;simpa using this
  rw[hf]at t1;rw[hall];refine⟨_,N1+200,fun m => ?_,⟨aq.map (Ar.d e),[],rfl,Qg0 (by simp),by simp⟩⟩;rw[show N1+200+m=(N1+m)+200 by omega,av rfl (k1102:E1.fn _=_) rfl];replace t1:=fun k=>eP (t1 0) (show N1+0<=N1+m+k by omega)
  rw[hself];have i0:=idx hBo;have hO':∀ n,List.map (ae.aA n) B=B:=hO;generalize aq.map (Ar.d e)=es,aq.length=n at*;simp -implicitDefEqProofs[f1102,t1,i0,ho,hO',vw,ae.aA,FV.aA,FV.aR]
 | some i =>
  rw[Qv1]at hf;obtain⟨hi,hiz,hib⟩:=hf;have hf:aq.findIdx? (fun a=>fo a.x)=some i:=by
   rw[Qv1];exact⟨hi,hiz,hib⟩
  rw[hf]at t1;have htk:aq.take i=(aq.take (i+1)).filter (fun a => !fo a.x):=by
   rw[Qp2 hi,List.filter_append];have h1:(aq.take i).filter (fun a => !fo a.x)=aq.take i:=by
    rw[X20];intro a ha;obtain⟨j,hj⟩:=Qy1.1 ha;rw[Qp1]at hj;split at hj
    ·rename_i hji;have:=hib j hji;rw[Qa0 omK]at hj;cases hj;simpa using this
    ·cases hj
   rw[h1];simp[hiz]
  obtain⟨R',J',i',Eh,h1,h2,h3,h4,h5⟩:=GX o az r0 kk ps B hO ho hor hB aq hn fo hz (aq.length-(i+1)) (i+1) i aq [] false omK omK rfl htk rfl (fun _=>rfl);have hO':∀ n,List.map (ae.aA n) B=B:=hO;have i0:=idx hBo;have sA:Ex E1 f1102.body.l {vars:=[.ls (.old o) az 11 0 aq.length,.f 1103 [] [.r (.old r0) 0],.u,.u,.u,.u,.u,.u,.u],base:=B,loc:=[],aP:=false}
    (.norm,{vars:=[.ls (.old o) az 11 0 aq.length,.f 1103 [] [.r (.old r0) 0],.u,.u,.u,.u,.u,.u,.u],base:=B,loc:=[],aP:=false}):=by
   refine Ex.of (n:=60) ?_;simp -implicitDefEqProofs[f1102]
  have sB:Ex E1 f1102.body.r.l {vars:=[.ls (.old o) az 11 0 aq.length,.f 1103 [] [.r (.old r0) 0],.u,.u,.u,.u,.u,.u,.u],base:=B,loc:=[],aP:=false}
    (.norm,{vars:=[.ls (.old o) az 11 0 aq.length,.f 1103 [] [.r (.old r0) 0],.u,.d (.v (.int .i64 i)),.u,.u,.u,.u,.u],base:=B,loc:=[],aP:=false}):=by
   refine Ex.of (n:=N1+60) ?_;clear sA h1 hf htk hib hiz hz;generalize aq.map (Ar.d e)=es,aq.length=n at*;simp -implicitDefEqProofs[f1102,t1,i0,ho,hO',vw,ae.aA,FV.aA,FV.aR]
  have hneg:((i:Int)==-1)=false:=by
   rw[beq_eq_false_iff_ne];omega
  have hw:ah .i64 ((i:Int)+1)=(i:Int)+1:=wrap_i64 omK;have sC:Ex E1 f1102.body.r.r.l {vars:=[.ls (.old o) az 11 0 aq.length,.f 1103 [] [.r (.old r0) 0],.u,.d (.v (.int .i64 i)),.u,.u,.u,.u,.u],base:=B,loc:=[],aP:=false}
    (.norm,{vars:=[.ls (.old o) az 11 0 aq.length,.f 1103 [] [.r (.old r0) 0],.u,.d (.v (.int .i64 i)),.u,.u,.d (.v (.bool false)),.u,.u],base:=B,loc:=[],aP:=false}):=by
   refine Ex.of (n:=60) ?_;simp -implicitDefEqProofs[f1102,hneg]
  have sD:Ex E1 f1102.body.r.r.r.l.l {vars:=[.ls (.old o) az 11 0 aq.length,.f 1103 [] [.r (.old r0) 0],.u,.d (.v (.int .i64 i)),.u,.u,.d (.v (.bool false)),.u,.u],base:=B,loc:=[],aP:=false}
    (.norm,R9 o az r0 aq.length B (aq.map (Ar.d e)) [] i (i+1) .u false):=by
   have hk:((i+1:Nat):Int)=(i:Int)+1:=by omega
   refine Ex.of (n:=60) ?_;unfold R9;rw[hself,hk];simp -implicitDefEqProofs[f1102,hw]
  have hRl:(R'.map (Ar.d e)).length=aq.length:=by simpa using h2
  have hsub:aq.length-i'≠0:=by omega
  have hadd:i'+(aq.length-i')=aq.length:=by omega
  have hi0:(0:Int)<=(i':Int):=by omega
  have hin:(i':Int)<=(aq.length:Int):=by omega
  have hol:o<(B.set o (.row az 11 (R'.map (Ar.d e)))).length:=by simpa using ho
  have hg:∀ X,(B.set o (.row az 11 (R'.map (Ar.d e)))++X)[o]?=some (.row az 11 (R'.map (Ar.d e))):=fun X=>by rw[Qa1 hol];exact Qf0 ho
  have ig:=fun X=>idx (hg X)
  have hdr:List.drop aq.length (R'.map (Ar.d e))=[]:=Xw2 omK;have hl1:¬ B.length<=o:=by omega
  have sE:Ex E1 f1102.body.r.r.r.r.l (R9 o az r0 aq.length B (R'.map (Ar.d e)) J' i' aq.length (.d (.v (.bool false))) Eh)
    (.norm,{vars:=[.ls (.old o) az 11 0 aq.length,.u,.u,.d (.v (.int .i64 i')),.u,.u,.u,.u,.u],base:=B.set o (.row az 11 (List.take i' (R'.map (Ar.d e))++List.replicate (aq.length-i') arZ)),loc:=J',aP:=true}):=by
   refine Ex.of (n:=60) ?_;unfold R9 arZ yO;clear sA sB sC sD h1 hf htk hib hiz hz t1 h3 h5;generalize R'.map (Ar.d e)=es,aq.length=n at*;simp -implicitDefEqProofs[f1102,kT,Ii,hsub,hadd,hi0,hin,hg,ho,hRl,hdr]
  have hfin:(aq.filter fun a => !fo a.x).length=i':=by
   rw[<-h3,Qr1];omega
  have sF:Ex E1 f1102.body.r.r.r.r.r {vars:=[.ls (.old o) az 11 0 aq.length,.u,.u,.d (.v (.int .i64 i')),.u,.u,.u,.u,.u],base:=B.set o (.row az 11 (List.take i' (R'.map (Ar.d e))++List.replicate (aq.length-i') arZ)),loc:=J',aP:=true}
    (.ret,{vars:=[.u,.u,.ls (.old o) az 11 0 i',.u,.u,.u,.u,.u,.u],base:=B.set o (.row az 11 (List.take i' (R'.map (Ar.d e))++List.replicate (aq.length-i') arZ)),loc:=J',aP:=true}):=by
   refine Ex.of (n:=60) ?_;clear sA sB sC sD sE h1 hf htk hib hiz hz t1 h3 h5 hg ig;generalize List.take i' (R'.map (Ar.d e))++List.replicate (aq.length-i') arZ=es at*;generalize aq.length=n at*;simp -implicitDefEqProofs[f1102,kT,Ii,hi0,hin]
  have hlt:(List.take i' (R'.map (Ar.d e))++List.replicate (aq.length-i') arZ).length=aq.length:=by simp;omega
  obtain⟨N,hN⟩:=pM (E:=E1) (g:=1102) (F:=f1102) (args:=[.ls (.old o) az 11 0 aq.length,.f 1103 [] [.r (.old r0) 0]]) (B:=B) (o:=.ret)
   (r:=(.ls (.old o) az 11 0 i',some (B.set o (.row az 11 (List.take i' (R'.map (Ar.d e))++List.replicate (aq.length-i') arZ))++J'))) rfl (k1102:E1.fn _=_) rfl
   (sA.seq (sB.seq (sC.seq (Ex.seq (sD.seq (Ex.block h1)) (sE.seq sF))))) (by simp) (by
    have e1:∀ k,List.map (ae.aA k) J'=J':=h5;simp[finish,lL,F9,show f1102.res=[.var 2] from rfl,show f1102.ref=true from rfl,fZ,oneOf,jZ,FV.aA,Qz2,hO',e1,ae.aA])
  refine⟨_,N,hN,⟨_,J',by rw[hfin],?_,by rw[hfin,hlt];omega⟩⟩;rw[hfin,List.take_append_of_le_length (by simp;omega),List.take_take,Nat.min_self,<-List.map_take,h3]
end
section
variable {α:Type} {e:α->W} {pl:α->α->α} {z:W} {fo:α->Bool} {G:Nat->α->Prop} {m:Nat} {kk:Int} {ps:List Int}
theorem Wts.le (hW:Wts kk ps e pl z fo G m){x:α}{n k:Nat}(h:G n x)(hk:n<=k):G k x:=by
 induction k with
 | zero => obtain rfl : n = 0 := by omega
           exact h
 | succ k ih =>
  rcases Xb2 hk with rfl|h2
  ·exact h
  ·exact hW.mono _ _ (ih omK)
theorem Zk (hW:Wts kk ps e pl z fo G m)(l:List (Ar α))(hl:l.length<=1000000)(hm:l.length<=m)(hg:∀ a ∈ l,G 1 a.x)(s:Nat)(L:List ae)(hJ:iI L)(h0:L[0]?=some (aU kk ps))(hs:L[s]?=some (.row 1 11 (l.map (Ar.d e)))) :
  ∃ out L',Ex E1 (.loop Zh) (JW s l.length 0 (.d (.n 11)) .u L false) (.exit 0,JW s l.length l.length out (.d (.v (.bool false))) L' false)/\L'[0]?=some (aU kk ps)/\iI L'/\Da e s out L' (mg pl l)/\(∀ a ∈ mg pl l,G (l.length+1) a.x)/\(mg pl l).length<=l.length:=by
 obtain⟨r,h1,out,L',h2,h3,h4,h5,h6,h7⟩:=Ex.fold (E:=E1) (b:=Zh) l (kz pl) []
  (fun j acc st=>∃ out L,st=JW s l.length j out .u L false/\L[0]?=some (aU kk ps)/\L[s]?=some (.row 1 11 (l.map (Ar.d e)))/\iI L/\Da e s out L acc/\(∀ a ∈ acc,G j a.x)/\acc.length<=j)
  (fun acc r=>∃ out L,r=(.exit 0,JW s l.length l.length out (.d (.v (.bool false))) L false)/\L[0]?=some (aU kk ps)/\iI L/\Da e s out L acc/\(∀ a ∈ acc,G l.length a.x)/\acc.length<=l.length)
  (fun j x st hx ⟨out,L,hst,g0,gs,gJ,g1,g2,g3⟩=>by
   subst hst;have hj:j<l.length:=(bD hx)
   have hgx:=hg x (Qa2 hx);generalize hacc:(l.take j).foldl (kz pl) []=acc at*;have hq:∀ y ∈ kz pl acc x,G (j+1) y.x:=MU pl x (fun a=>G j a.x) (fun a=>G (j+1) a.x) (hW.le hgx omK) (fun y h=>hW.mono _ _ h) (fun y h=>hW.pg _ _ _ omK h hgx) acc g2;have hlen:=MV pl x acc
   by_cases hy:∃ q y,acc=q++[y]/\jw y x
   ·obtain⟨q,y,rfl,he⟩:=hy;have e1:kz pl (q++[y]) x=q++[lK pl y x]:=by rw[kZ,if_pos he]
    rw[e1]at hq hlen ⊢;simp only[Qb0,Xi1]at g3;obtain⟨L',k1,k2,k3,k4,k5⟩:=Zi kk ps s l.length j out L false q l pl x y g0 gs rfl hl hx g1 omK ((GR y x).2 he) (hW.p1 j y.x x.x omK (g2 y (by simp)) hgx);exact⟨_,k1,out,L',rfl,k2,k3,k5 gJ,k4,hq,by simp;omega⟩
   ·have hno:∀ y,acc.getLast?=some y->¬ jw y x:=by
     intro y h1 h2;obtain⟨q,h3⟩:=List.getLast?_eq_some_iff.1 h1;exact hy ⟨q,y,h3,h2⟩
    have e1:kz pl acc x=acc++[x]:=by
     rcases Xa1 acc with rfl|⟨q,y,rfl⟩
     ·rfl
     ·rw[Q32]at*;rw[kZ,if_neg (hno y (by simp))]
    rw[e1]at hq hlen ⊢;obtain⟨out',L',k1,k2,k3,k4,k5⟩:=acV kk ps s l.length j out L false acc l x z g0 gs rfl hl hx g1 omK (fun y h1 h2=>hno y h1 ((GR y x).1 h2)) hW.zero (hW.pz x.x hgx);exact⟨_,k1,out',L',rfl,k2,k3,k5 gJ,k4,hq,by simp;omega⟩)
  (fun st ⟨out,L,hst,g0,gs,gJ,g1,g2,g3⟩=>by
   subst hst;refine⟨_,Ex.of (n:=60) (r:=(.exit 0,JW s l.length l.length out (.d (.v (.bool false))) L false)) ?_,by simp,out,L,rfl,g0,gJ,g1,g2,g3⟩;unfold JW;generalize l.length=n at*;simp -implicitDefEqProofs[Zh,f1064])
  (st:=JW s l.length 0 (.d (.n 11)) .u L false) ⟨_,L,rfl,h0,hs,hJ,.inl ⟨rfl,rfl⟩,by simp,by simp⟩
 subst h2;rw[Zg]at h5 h6 h7;exact⟨out,L',h1,h3,h4,h5,fun a ha=>hW.mono _ _ (h6 a ha),h7⟩
theorem MW (B:List ae):∃ N,∀ m,CL E1 (N+m) 1101 [.d (.s 11 []),.d (.fn 1070)] B=some (.d (.t []),none):=by
 have w1:ah .i64 1=1:=wrap_i64 omK;have h1:∀ (B:List ae) m,CL E1 (m+100) 1208 [.d (.s 11 []),.d (.v (.int .i64 0)),.d (.v (.int .i64 0)),.d (.fn 1070)] B=some (.d (.t []),none):=by
  intro B m;rw[av rfl (k1208:E1.fn _=_) rfl];simp -implicitDefEqProofs[f1208,aC,w1,uC,FV.aR,FV.aA]
 have h2:∀ (B:List ae) m,CL E1 (m+300) 1138 [.d (.s 11 []),.d (.v (.int .i64 0)),.d (.fn 1070)] B=some (.d (.t []),none):=by
  intro B m;rw[av rfl (k1138:E1.fn _=_) rfl];simp -implicitDefEqProofs[f1138,aC,h1,uC,FV.aR,FV.aA]
 refine⟨500,fun m => ?_⟩;rw[show 500+m=m+500 by omega,av rfl (k1101:E1.fn _=_) rfl];simp -implicitDefEqProofs[f1101,h2,uC,FV.aR,FV.aA]
theorem MX (B:List ae)(hB:iI B):∃ N,∀ m,CL E1 (N+m) 1102 [.d (.n 11),.f 1103 [] [.r (.old 0) 0]] B=some (.d (.n 11),none):=by
 obtain⟨N1,t1⟩:=Db (α:=W) (e:=id) 1103 0 [] (fun _=>false) B hB (by simp) (fun a ha=>by cases ha);have hB':∀ n,List.map (ae.aA n) B=B:=hB;refine⟨N1+200,fun m => ?_⟩;rw[show N1+200+m=(N1+m)+200 by omega,av rfl (k1102:E1.fn _=_) rfl];replace t1:=fun k=>eP (t1 0) (show N1+0<=N1+m+k by omega)
 simp only[Qc0,List.findIdx?_nil]at t1;simp -implicitDefEqProofs[f1102,t1,hB',FV.aA,FV.aR]
end
section
variable {α:Type} {e:α->W} {pl:α->α->α} {z:W} {fo:α->Bool} {G:Nat->α->Prop} {m:Nat} {kk:Int} {ps:List Int}
theorem Vy (s:Nat)(v8:FV)(n:Nat)(out:FV)(L:List ae)(aq:List (Ar α))(hJ:iI L)(h0:L[0]?=some (aU kk ps))(ho:Da e s out L aq)(hn:aq.length<=1000000)
  (hz:∀ a ∈ aq,Ca E1 1104 [.d (bA kk ps),.d (e a.x).d] (.d (.v (.bool (fo a.x))),none)) :
  ∃ st,Ex E1 f1064.body.r.r.r.r.r (st0 [.u,.u,.r (.loc 0) 0,.u,.u,out,.u,.u,v8,.d (.v (.int .i64 n)),.d (.v (.int .i64 n)),.d (.v (.bool false)),.u] L) (.ret,st) /\
   finish f1064 st=some (.d (.s 11 ((aq.filter fun a => !fo a.x).map (Ar.d e))),none):=by
 have hJ0:List.map (ae.aA 0) L=L:=hJ 0;rcases ho with ⟨rfl,rfl⟩|⟨i,az,_,rfl,hrow⟩
 ·obtain⟨N,t⟩:=MX L hJ;refine⟨(st0 [.u,.u,.u,.d (.n 11),.u,.u,.u,.u,.u,.u,.u,.u,.u] L),Ex.of (n:=N+100) ?_,?_⟩
  ·simp -implicitDefEqProofs[f1064,t,hJ0,FV.aA,FV.aR]
  ·simp[show f1064.res=[.var 3] from rfl,show f1064.ref=false from rfl]
 ·have hi0:i≠0:=fun h=>by subst h;rw[h0]at hrow;cases hrow
  obtain⟨r,N,t,row,J,rfl,h1,h2⟩:=QL i az 0 kk ps L hJ hi0 h0 aq hn fo hrow hz;have hi:i<L.length:=(bD hrow)
  generalize hk:aq.filter (fun a => !fo a.x)=ks at*;have hg:(L.set i (.row az 11 row)++J)[i]?=some (.row az 11 row):=by
   rw[Qa1 (by simpa using hi)];exact Qf0 hi
  generalize L.set i (.row az 11 row)++J=L2 at*;refine⟨(st0 [.u,.u,.u,.ls (.loc i) az 11 0 ks.length,.u,.u,.u,.u,.u,.u,.u,.u,.u] L2),Ex.of (n:=N+100) ?_,?_⟩
  ·generalize aq.length=n2,ks.length=n3 at*;simp -implicitDefEqProofs[f1064,t,hJ0,FV.aA,FV.aR]
  ·have h9:ae.view az 11 0 ks.length (.row az 11 row)=some (ks.map (Ar.d e)):=by
    have h2':0+ks.length<=row.length:=by omega
    simp only[ae.view,h2',and_self,if_true,List.drop_zero,h1]
   simp[show f1064.res=[.var 3] from rfl,show f1064.ref=false from rfl,hg,h9]
theorem Zl (hW:Wts kk ps e pl z fo G m)(l:List (Ar α))(hl:l.length<20)(hm:l.length<m)(hg:∀ a ∈ l,G 1 a.x) :
  Ca E1 1064 [.d (bA kk ps),.d (.s 11 (l.map (Ar.d e)))] (.d (.s 11 (((eQ pl l).filter fun a => !fo a.x).map (Ar.d e))),none):=by
 have sA:Ex E1 f1064.body.l (st0 [.d (bA kk ps),.d (.s 11 (l.map (Ar.d e))),.u,.u,.u,.u,.u,.u,.u,.u,.u,.u,.u] [])
   (.norm,(st0 [.u,.d (.s 11 (l.map (Ar.d e))),.r (.loc 0) 0,.u,.u,.u,.u,.u,.u,.u,.u,.u,.u] [aU kk ps])):=by
  refine Ex.of (n:=60) ?_;unfold bA aU;simp -implicitDefEqProofs[f1064]
 have hrg:∀ n,ae.aA n (aU kk ps)=aU kk ps:=mf [.v (.int .i64 kk),.s 1 (LK .i64 ps)];cases hl0:l with
 | nil =>
  obtain⟨N,t⟩:=MW [aU kk ps];have tc:∀ k,CL E1 k 1100 [.d (.s 11 [])] [aU kk ps]=some (.d (.s 11 []),none):=fun k=>by
   rw[rH (p:=q8 11) rfl (aaS:E1.fn _=_) rfl];rfl
  obtain⟨st,h7,h8⟩:=Vy (e:=e) (fo:=fo) 0 (.d (.s 11 [])) 0 (.d (.n 11)) [aU kk ps] [] (iI.one hrg) rfl (.inl ⟨rfl,rfl⟩) (by simp) (by simp);rw[hl0]at sA;have sB:Ex E1 (.seq f1064.body.r.l (.seq f1064.body.r.r.l (.seq f1064.body.r.r.r.l (.seq f1064.body.r.r.r.r.l f1064.body.r.r.r.r.r)))) (st0 [.u,.d (.s 11 []),.r (.loc 0) 0,.u,.u,.u,.u,.u,.u,.u,.u,.u,.u] [aU kk ps]) (.ret,st):=by
   refine Ex.seq (st1:=(st0 [.u,.u,.r (.loc 0) 0,.u,.d (.s 11 []),.u,.u,.u,.u,.u,.u,.u,.u] [aU kk ps])) ?_ (Ex.seq (st1:=(st0 [.u,.u,.r (.loc 0) 0,.u,.d (.s 11 []),.u,.u,.u,.u,.u,.u,.u,.u] [aU kk ps])) ?_ (Ex.seq (st1:=(st0 [.u,.u,.r (.loc 0) 0,.u,.d (.s 11 []),.d (.n 11),.u,.u,.u,.u,.u,.u,.u] [aU kk ps])) ?_ (Ex.seq ?_ h7)))
   ·refine Ex.of (n:=60) ?_;generalize aU kk ps=rb at*;simp -implicitDefEqProofs[f1064,tc,hrg,FV.aA,FV.aR]
   ·refine Ex.of (n:=N+60) ?_;generalize aU kk ps=rb at*;simp -implicitDefEqProofs[f1064,t,hrg,FV.aA,FV.aR]
   ·refine Ex.of (n:=60) ?_;simp -implicitDefEqProofs[f1064]
   ·refine Ex.of (n:=60) ?_;simp -implicitDefEqProofs[f1064,aC]
  exact Ca.body (o:=.ret) rfl (k1064:E1.fn _=_) rfl (sA.seq sB) (by simp) h8
 | cons a0 l0 =>
  rw[<-hl0];have hne:0<l.length:=by rw[hl0];simp
  clear hl0;have hel:(l.map (Ar.d e)).length=l.length:=by simp
  have tc:∀ k,CL E1 k 1100 [.d (.s 11 (l.map (Ar.d e)))] [aU kk ps]=some (.ls (.old 1) 1 11 0 l.length,some [aU kk ps,.row 1 11 (l.map (Ar.d e))]):=fun k=>by
   rw[rH (p:=q8 11) rfl (aaS:E1.fn _=_) rfl];have hle:(l.map (Ar.d e)).length<=1000000:=by omega
   cases hm:l.map (Ar.d e) with
   | nil=>rw[hm]at hel;simp at hel;omega
   | cons d ds =>
    rw[hm]at hel hle;have hl2:l.length<=1000000:=by omega
    simp only[q8,hel,hl2,and_self,if_true];simp[hrg]
  obtain⟨r,N,t0,hr⟩:=QI 1 1 [aU kk ps,.row 1 11 (l.map (Ar.d e))] l rfl (fun n=>by simp only[Qd2,Qc0,hrg,nC]) hl;have t:∀ k,CL E1 (N+k) 1101 [.ls (.old 1) 1 11 0 l.length,.d (.fn 1070)] [aU kk ps,.row 1 11 (l.map (Ar.d e))]=some r:=fun k=>by
   have:=t0 k;rw[jH]at this ⊢;exact rJ vE (wO vE _) this
  obtain⟨out,L,h1,h2,h3,h4,h5,h6⟩:=Zk hW (bq l) (by rw[kY];omega) (by rw[kY];omega) (fun a ha=>hg a (JV ha)) 1 [aU kk ps,.row 1 11 ((bq l).map (Ar.d e))] (fun n=>by simp only[Qd2,Qc0,hrg,nC]) rfl rfl;rw[kY]at h1 h5 h6;rw[Zf]at h4 h5 h6;obtain⟨st,h7,h8⟩:=Vy (fo:=fo) 1 (.ls (.loc 1) 1 11 0 l.length) l.length out L (eQ pl l) h3 h2 h4 omK (fun a ha=>hW.z1 _ _ omK (h5 a ha));have sB:Ex E1 f1064.body.r.l (st0 [.u,.d (.s 11 (l.map (Ar.d e))),.r (.loc 0) 0,.u,.u,.u,.u,.u,.u,.u,.u,.u,.u] [aU kk ps])
    (.norm,(st0 [.u,.u,.r (.loc 0) 0,.u,.ls (.loc 1) 1 11 0 l.length,.u,.u,.u,.u,.u,.u,.u,.u] [aU kk ps,.row 1 11 (l.map (Ar.d e))])):=by
   refine Ex.of (n:=60) ?_;clear h1 h7 h8 h4 sA hel;generalize l.map (Ar.d e)=es,l.length=n,aU kk ps=rb at*;simp -implicitDefEqProofs[f1064,tc,hrg,FV.aA,FV.aR]
  have sC:Ex E1 f1064.body.r.r.l (st0 [.u,.u,.r (.loc 0) 0,.u,.ls (.loc 1) 1 11 0 l.length,.u,.u,.u,.u,.u,.u,.u,.u] [aU kk ps,.row 1 11 (l.map (Ar.d e))])
    (.norm,(st0 [.u,.u,.r (.loc 0) 0,.u,.ls (.loc 1) 1 11 0 l.length,.u,.u,.u,.u,.u,.u,.u,.u] [aU kk ps,.row 1 11 ((bq l).map (Ar.d e))])):=by
   refine Ex.of (n:=N+60) ?_;clear h1 h7 h8 h4 sA sB hel;rcases hr with ⟨rfl,hs⟩|rfl
   ·rw[hs];clear hs;generalize l.map (Ar.d e)=es,l.length=n,aU kk ps=rb at*;simp -implicitDefEqProofs[f1064,t,hrg,nC,FV.aA,FV.aR]
   ·generalize l.map (Ar.d e)=es at*;generalize (bq l).map (Ar.d e)=es2,l.length=n,aU kk ps=rb at*;simp -implicitDefEqProofs[f1064,t,hrg,nC,FV.aA,FV.aR]
  have sD:Ex E1 f1064.body.r.r.r.l (st0 [.u,.u,.r (.loc 0) 0,.u,.ls (.loc 1) 1 11 0 l.length,.u,.u,.u,.u,.u,.u,.u,.u] [aU kk ps,.row 1 11 ((bq l).map (Ar.d e))])
    (.norm,(st0 [.u,.u,.r (.loc 0) 0,.u,.ls (.loc 1) 1 11 0 l.length,.d (.n 11),.u,.u,.u,.u,.u,.u,.u] [aU kk ps,.row 1 11 ((bq l).map (Ar.d e))])):=by
   refine Ex.of (n:=60) ?_;generalize l.length=n at*;simp -implicitDefEqProofs[f1064]
  have sE:Ex E1 f1064.body.r.r.r.r.l.l (st0 [.u,.u,.r (.loc 0) 0,.u,.ls (.loc 1) 1 11 0 l.length,.d (.n 11),.u,.u,.u,.u,.u,.u,.u] [aU kk ps,.row 1 11 ((bq l).map (Ar.d e))])
    (.norm,JW 1 l.length 0 (.d (.n 11)) .u [aU kk ps,.row 1 11 ((bq l).map (Ar.d e))] false):=by
   refine Ex.of (n:=60) ?_;unfold JW;generalize l.length=n at*;simp -implicitDefEqProofs[f1064]
  exact Ca.body (o:=.ret) rfl (k1064:E1.fn _=_) rfl (sA.seq (sB.seq (sC.seq (sD.seq (Ex.seq (sE.seq (Ex.block h1)) h7))))) (by simp) h8
end
end Fi.S
