import Derived.Test.YtbbogkfadofneaaGreatDoorCQ
set_option linter.unusedVariables false
set_option linter.unusedSimpArgs false
noncomputable section
namespace Fi.S
open Go Fi
set_option maxHeartbeats 8000000
section
variable {α:Type} {e:α->W}
def kr (e:α->W)(s:Nat)(out:FV)(L:List ah)(aq:List (Ar α)):Prop:=(out=.d (.n 11)/\aq=[])\/∃ i ak,i≠s/\out=.ls (.loc i) ak 11 0 aq.length/\L[i]?=some (.row ak 11 (aq.map (Ar.d e)))
def iK (J:List ah):Prop:=∀ n,J.map (ah.az n)=J
theorem iK.add {J X:List ah}(h:iK J)(hx:iK X):iK (J++X):=fun n=>by rw[Qp2,h,hx]
theorem iK.put {J:List ah}(h:iK J)(i:Nat){r:ah}(hr:∀ n,ah.az n r=r):iK (J.set i r):=fun n=>by rw[Q62,h,hr]
theorem iK.one {r:ah}(hr:∀ n,ah.az n r=r):iK [r]:=fun n=>by simp[hr]
theorem l5 (ak sz:Nat)(es:List D)(n:Nat):ah.az n (.row ak sz es)=.row ak sz es:=rfl
theorem kN (cs:List D)(n:Nat):ah.az n (.box (cs.map .d))=.box (cs.map .d):=by simp[ah.az,eU,FV.az,Xo0]
def aG (kk:Int)(ps:List Int):ah:=.box [dI kk,.d (.s 1 (LK .i64 ps))]
def Zp:aF:=f1064.body.r.r.r.r.l.r.bl.lp
def JH (s n j:Nat)(out t:FV)(L:List ah)(dt:Bool):St :=
 {vars:=[.u,.u,rL 0,.u,.u,out,.u,.u,.ls (.loc s) 1 11 0 n,dI n,dI j,t,.u],base:=[],loc:=L,aS:=dt}
theorem afQ (e:α->W)(a b:Ar α):Ca E1 1070 [.d (a.d e),.d (b.d e)] (dI (kX a b),none):=Ca.ib (Ca.bP (Cu e 0 a b))
theorem acZ (kk:Int)(ps:List Int)(s n j:Nat)(out:FV)(L:List ah)(dt:Bool)(aq sl:List (Ar α))(x:Ar α)(z:W)(h0:L[0]?=some (aG kk ps))(hs:L[s]?=some (.row 1 11 (sl.map (Ar.d e))))(hsl:sl.length=n)(hn:n<=1000000)
  (hx:sl[j]?=some x) (ho:kr e s out L aq) (has:aq.length<=1000000) (hno:∀ y,aq.getLast?=some y->kX y x≠0)
  (hz:Ca E1 26 [.d (aT kk ps)] (.d z.d,none)) (hp:Ca E1 14 [.d (aT kk ps),.d (e x.x).d,.d z.d] (.d (e x.x).d,none)) :
  ∃ out' L' ,Ex E1 Zp (JH s n j out .u L dt) (.norm,JH s n (j+1) out' .u L' dt)/\L'[0]?=some (aG kk ps)/\L'[s]?=some (.row 1 11 (sl.map (Ar.d e)))/\kr e s out' L' (aq++[x])/\(iK L->iK L'):=by
 obtain⟨N1,t1⟩:=hz.any;obtain⟨N2,t2⟩:=hp.any;have hj:j<sl.length:=(bq hx)
 have hjn:(j:Int)<(n:Int):=ae;have hj0:(0:Int)<=(j:Int):=ae;have aR:ai .i64 ((j:Int)+1)=(j:Int)+1:=wrap_i64 ae;have hk1:((j+1:Nat):Int)=(j:Int)+1:=ae;have e1:(sl.map (Ar.d e))[j]?=some (x.d e):=by simp[hx]
 have l0:0<L.length:=(bq h0)
 have ls:s<L.length:=(bq hs)
 have g0:∀ X,(L++X)[0]?=some (aG kk ps):=fun X=>by rw[Qa0 l0];exact h0
 have gs:∀ X,(L++X)[s]?=some (.row 1 11 (sl.map (Ar.d e))):=fun X=>by rw[Qa0 ls];exact hs
 have sA:∀ b b':ah,(L++[b]).set L.length b'=L++[b']:=fun b b'=>by simp
 rcases ho with ⟨rfl,rfl⟩|⟨i,ak,his,rfl,hrow⟩
 ·obtain⟨K,hK⟩:∃ K,K=N1+N2:=⟨_,rfl⟩
  replace t1:=t1 K ae;replace t2:=t2 K ae;obtain⟨xs,l1,l2,c,b,u,p,q,ew,ex⟩:=x.gD e;obtain⟨zs,Ed,Ee,zc,zb,zu,zp,E9,ez⟩:=z.aN;refine⟨.ls (.loc (L.length+1)) 0 11 0 1,L++[.box ((x.d e).cells.map .d),.row 0 11 [x.d e]],?_,g0 _,gs _,.inr ⟨L.length+1,0,ae,rfl,by rw[Qc0 ae];simp⟩,fun hJ=>hJ.add (iK.add (J:=[_]) (X:=[_]) (iK.one (kN _)) (iK.one (l5 _ _ _)))⟩;simp only[ex,ez,ew]at t1 t2 e1 gs hs ⊢;clear ew ex ez hno hp hz;unfold aG aT wD tX at*;generalize LK .i64 ps=l9,sl.map (Ar.d e)=es at*;have i0:=idx e1;have j0:=fun X=>idx (g0 X)
  have js:=fun X=>idx (gs X)
  have jl:j<es.length:=(bq e1)
  refine Ex.of (n:=K+300) ?_;unfold JH;rw[hk1];simp[Zp,f1064,t1,t2,hj0,hjn,jl,aR,i0,j0,hs,sA,most]
 ·rcases Q91 aq with rfl|⟨q,y,rfl⟩
  ·-- an empty row
   obtain⟨K,hK⟩:∃ K,K=N1+N2:=⟨_,rfl⟩
   replace t1:=t1 K ae;replace t2:=t2 K ae;have hi0:i≠0:=fun h=>by subst h;rw[h0]at hrow;cases hrow
   have li:i<L.length:=(bq hrow)
   have gi:∀ X,(L++X)[i]?=some (.row ak 11 []):=fun X=>by rw[Qa0 li];exact hrow
   have si:∀ X r,(L++X).set i r=L.set i r++X:=fun X r=>Q50 _ _ li
   obtain⟨xs,l1,l2,c,b,u,p,q,ew,ex⟩:=x.gD e;obtain⟨zs,Ed,Ee,zc,zb,zu,zp,E9,ez⟩:=z.aN;refine⟨.ls (.loc i) (ak+1) 11 0 1,L.set i (.row (ak+1) 11 [x.d e])++[.box ((x.d e).cells.map .d)],?_,?_,?_,.inr ⟨i,ak+1,his,rfl,?_⟩,fun hJ=>(hJ.put i (l5 _ _ _)).add (iK.one (kN _))⟩
   ·simp only[ex,ez,ew]at t1 t2 e1 gs hs ⊢;clear ew ex ez hno hp hz;unfold aG aT wD tX at*;generalize LK .i64 ps=l9,sl.map (Ar.d e)=es at*;have i0:=idx e1;have j0:=fun X=>idx (g0 X)
    have js:=fun X=>idx (gs X)
    have jl:j<es.length:=(bq e1)
    refine Ex.of (n:=K+300) ?_;unfold JH;rw[hk1];simp[Zp,f1064,t1,t2,hj0,hjn,jl,aR,i0,j0,hs,sA,most,gi,si]
   ·rw[Qa0 (by simpa using l0),Qd0 hi0];exact h0
   ·rw[Qa0 (by simpa using ls),Qd0 his];exact hs
   ·rw[Qa0 (by simpa using li),Qf0 li];rfl
  ·obtain⟨N3,t3⟩:=(afQ e y x).any;obtain⟨K,hK⟩:∃ K,K=N1+N2+N3:=⟨_,rfl⟩
   replace t1:=t1 K ae;replace t2:=t2 K ae;replace t3:=t3 K ae;have hi0:i≠0:=fun h=>by subst h;rw[h0]at hrow;cases hrow
   have li:i<L.length:=(bq hrow)
   have afR:=hno y aA;have ac0:(kX y x==0)=false:=by simpa using afR
   simp only[Q22]at*;have hlen:(q++[y]).length=q.length+1:=aA;rw[hlen]at has;have hcast:((q.length+1:Nat):Int)=(q.length:Int)+1:=ae;have hpos:(0:Int)<(q.length:Int)+1:=ae;have hq0:(0:Int)<=(q.length:Int):=ae;have hw1:ai .i64 (q.length:Int)=(q.length:Int):=wrap_i64 ae;have hq1:(q.length:Int)<(q.length:Int)+1:=ae;have ey:((q++[y]).map (Ar.d e))[q.length]?=some (y.d e):=aA;have hrl:((q++[y]).map (Ar.d e)).length=q.length+1:=aA;have gi:∀ X,(L++X)[i]?=some (.row ak 11 ((q++[y]).map (Ar.d e))):=fun X=>by rw[Qa0 li];exact hrow
   have si:∀ X r,(L++X).set i r=L.set i r++X:=fun X r=>Q50 _ _ li
   have tkr:((q++[y]).map (Ar.d e)).take (q.length+1)=(q++[y]).map (Ar.d e):=Qe1 aA;have m1:(q.length+1+1)*152<=1099511627776:=ae;have m2:q.length+1+1<=1099511627776:=ae;have hfin:(q++[y]++[x]).map (Ar.d e)=(q++[y]).map (Ar.d e)++[x.d e]:=aA;have ED:(q++[y]++[x]).length=q.length+1+1:=aA;refine⟨.ls (.loc i) (ak+1) 11 0 (q.length+1+1),L.set i (.row (ak+1) 11 ((q++[y]).map (Ar.d e)++[x.d e]))++[.box ((x.d e).cells.map .d)],?_,?_,?_,.inr ⟨i,ak+1,his,by rw[ED],?_⟩,fun hJ=>(hJ.put i (l5 _ _ _)).add (iK.one (kN _))⟩
   ·obtain⟨xs,l1,l2,c,b,u,p,ps',ew,ex⟩:=x.gD e;obtain⟨ys,yl1,yl2,yc,yb,yu,yp,yps,ew2,Fg⟩:=y.gD e;obtain⟨zs,Ed,Ee,zc,zb,zu,zp,E9,ez⟩:=z.aN;simp only[ex,ez,ew,Fg]at t1 t2 t3 e1 ey ⊢;rw[hlen];generalize kX y x=od at*;clear ew ex ez ew2 Fg hno hp hz hfin ED afR hlen;unfold aG aT wD tX at*;generalize sl.map (Ar.d e)=es,(q++[y]).map (Ar.d e)=es2,q.length=m at*;have i0:=idx e1;have j0:=fun X=>idx (g0 X)
    have js:=fun X=>idx (gs X)
    have i1:=idx ey;have jl:j<es.length:=(bq e1)
    refine Ex.of (n:=K+300) ?_;unfold JH;rw[hk1];simp[Zp,f1064,t1,t2,t3,hj0,hjn,jl,aR,i0,j0,i1,hs,sA,most,gi,si,hpos,hq0,hw1,hq1,ac0,hrl,tkr,m1,m2,hcast]
   ·rw[Qa0 (by simpa using l0),Qd0 hi0];exact h0
   ·rw[Qa0 (by simpa using ls),Qd0 his];exact hs
   ·rw[Qa0 (by simpa using li),Qf0 li,hfin]
theorem Zq (kk:Int)(ps:List Int)(s n j:Nat)(out:FV)(L:List ah)(dt:Bool)(q sl:List (Ar α))(pl:α->α->α)(x y:Ar α)(h0:L[0]?=some (aG kk ps))(hs:L[s]?=some (.row 1 11 (sl.map (Ar.d e))))(hsl:sl.length=n)(hn:n<=1000000)
  (hx:sl[j]?=some x) (ho:kr e s out L (q++[y])) (has:q.length<=1000000) (heq:kX y x=0) (hp:Ca E1 14 [.d (aT kk ps),.d (e y.x).d,.d (e x.x).d] (.d (e (pl y.x x.x)).d,none)) :
  ∃ L' ,Ex E1 Zp (JH s n j out .u L dt) (.norm,JH s n (j+1) out .u L' dt)/\L'[0]?=some (aG kk ps)/\L'[s]?=some (.row 1 11 (sl.map (Ar.d e)))/\kr e s out L' (q++[iX pl y x])/\(iK L->iK L'):=by
 obtain⟨N2,t2⟩:=hp.any;obtain⟨N3,t3⟩:=(afQ e y x).any;have hj:j<sl.length:=(bq hx)
 have hjn:(j:Int)<(n:Int):=ae;have hj0:(0:Int)<=(j:Int):=ae;have aR:ai .i64 ((j:Int)+1)=(j:Int)+1:=wrap_i64 ae;have hk1:((j+1:Nat):Int)=(j:Int)+1:=ae;have e1:(sl.map (Ar.d e))[j]?=some (x.d e):=by simp[hx]
 have l0:0<L.length:=(bq h0)
 have ls:s<L.length:=(bq hs)
 have g0:∀ X,(L++X)[0]?=some (aG kk ps):=fun X=>by rw[Qa0 l0];exact h0
 have gs:∀ X,(L++X)[s]?=some (.row 1 11 (sl.map (Ar.d e))):=fun X=>by rw[Qa0 ls];exact hs
 have sA:∀ b b':ah,(L++[b]).set L.length b'=L++[b']:=fun b b'=>by simp
 rcases ho with ⟨_,h⟩|⟨i,ak,his,rfl,hrow⟩
 ·simp at h
 ·obtain⟨K,hK⟩:∃ K,K=N2+N3:=⟨_,rfl⟩
  replace t2:=t2 K ae;replace t3:=t3 K ae;rw[heq]at t3;have hi0:i≠0:=fun h=>by subst h;rw[h0]at hrow;cases hrow
  have li:i<L.length:=(bq hrow)
  have hlen:(q++[y]).length=q.length+1:=aA;have hcast:((q.length+1:Nat):Int)=(q.length:Int)+1:=ae;have hpos:(0:Int)<(q.length:Int)+1:=ae;have hq0:(0:Int)<=(q.length:Int):=ae;have hw1:ai .i64 (q.length:Int)=(q.length:Int):=wrap_i64 ae;have hq1:(q.length:Int)<(q.length:Int)+1:=ae;have ey:((q++[y]).map (Ar.d e))[q.length]?=some (y.d e):=aA;have hrl:((q++[y]).map (Ar.d e)).length=q.length+1:=aA;have gi:∀ X,(L++X)[i]?=some (.row ak 11 ((q++[y]).map (Ar.d e))):=fun X=>by rw[Qa0 li];exact hrow
  have si:∀ X r,(L++X).set i r=L.set i r++X:=fun X r=>Q50 _ _ li
  have hfin:(q++[iX pl y x]).map (Ar.d e)=((q++[y]).map (Ar.d e)).set q.length ((iX pl y x).d e):=by
   rw[Qp2,Qp2,Q30 _ _ aA];simp
  refine⟨L.set i (.row ak 11 (((q++[y]).map (Ar.d e)).set q.length ((iX pl y x).d e)))++[.box ((x.d e).cells.map .d)],?_,?_,?_,.inr ⟨i,ak,his,aA,?_⟩,fun hJ=>(hJ.put i (l5 _ _ _)).add (iK.one (kN _))⟩
  ·obtain⟨xs,l1,l2,c,b,u,p,ps',ew,ex⟩:=x.gD e;obtain⟨ys,yl1,yl2,yc,yb,yu,yp,yps,ew2,Fg⟩:=y.gD e;obtain⟨zs,Ed,Ee,zc,zb,zu,zp,E9,ez,Vk⟩:=(iX pl y x).gD e;have JA:(e (pl y.x x.x)).d=wD zs Ed Ee zc zb zu zp E9:=ez;simp only[ex,JA,ew,Fg,ew2,Vk]at t2 t3 e1 ey ⊢;rw[hlen];have f1:(iX pl y x).f=y.f:=rfl;have f2:(iX pl y x).l=y.l:=rfl;have f3:(iX pl y x).t=y.t:=rfl;rw[f1,f2,f3];clear ew ex ez JA ew2 Fg Vk hp hfin hlen f1 f2 f3 heq;unfold aG aT wD tX at*;generalize sl.map (Ar.d e)=es,(q++[y]).map (Ar.d e)=es2,q.length=m at*;have i0:=idx e1;have j0:=fun X=>idx (g0 X)
   have js:=fun X=>idx (gs X)
   have i1:=idx ey;have jl:j<es.length:=(bq e1)
   refine Ex.of (n:=K+300) ?_;unfold JH;rw[hk1];simp[Zp,f1064,t2,t3,hj0,hjn,jl,aR,i0,j0,i1,hs,sA,gi,si,hpos,hq0,hw1,hq1,hrl,hcast]
  ·rw[Qa0 (by simpa using l0),Qd0 hi0];exact h0
  ·rw[Qa0 (by simpa using ls),Qd0 his];exact hs
  ·rw[Qa0 (by simpa using li),Qf0 li,hfin]
end
section
variable {α:Type} {e:α->W}
theorem Vr (kk:Int)(ps:List Int)(x:Ar α)(b:Bool)(h:Ca E1 1104 [.d (aT kk ps),.d (e x.x).d] (dB b,none))(r0:Nat) :
  ∃ N,∀ B:List ah,B[r0]?=some (aG kk ps)->∀ m,CL E1 (N+m) 1103 [.d (x.d e),.r (.old r0) 0] B=some (dB b,none):=by
 obtain⟨N,t⟩:=h.get;refine⟨N+100,fun B hB m => ?_⟩;have l0:r0<B.length:=(bq hB)
 have gB:∀ X,(B++X)[r0]?=some (aG kk ps):=fun X=>by rw[Qa0 l0];exact hB
 obtain⟨s,l1,l2,c,i,u,p,q,ew,ex⟩:=x.gD e;rw[ew]at t;rw[ex];unfold aG aT wD tX at*;rw[show N+100+m=(N+m)+100 by omega,av rfl (aM 1103 f1103:E1.fn _=_) rfl];replace t:=fun k=>eT (t 0) (show N+0<=N+m+k by omega)
 simp[f1103,t,gB]
def ixL:aF:=f1105.body.r.l.r.bl.lp
def Vs (g r0:Nat)(es:List D)(B:List ah)(j:Nat)(t:FV):St :=
 {vars:=[.d (.s 11 es),.f g [] [.r (.old r0) 0],.u,.u,dI es.length,dI j,t,.u],base:=B,loc:=[],aS:=false}
theorem CK (g r0:Nat)(aq:List (Ar α))(p:Ar α->Bool)(B:List ah)(hO:∀ n,B.map (ah.az n)=B)(hn:aq.length<=1000000)(hc:∀ a ∈ aq,∃ N,∀ m,CL E1 (N+m) g [.d (a.d e),.r (.old r0) 0] B=some (dB (p a),none)) :
  ∃ N,∀ m,CL E1 (N+m) 1105 [.d (.s 11 (aq.map (Ar.d e))),.f g [] [.r (.old r0) 0]] B=some (.d (.v (.int .i64 (match aq.findIdx? p with|some j=>(j:Int)|none=>-1))),none):=by
 have hl:(aq.map (Ar.d e)).length=aq.length:=aA;have hloop:=Ex.wW (E:=E1) (b:=ixL) aq p (fun j=>Vs g r0 (aq.map (Ar.d e)) B j .u) (.exit 0,Vs g r0 (aq.map (Ar.d e)) B aq.length (dB false)) (fun j=>(.ret,{vars:=(.u::.u::dI j::lI),base:=B,loc:=[],aS:=false})) aA aA
  (fun j a ha=>by
   obtain⟨N,t⟩:=hc a (Qa2 ha);have hj:j<aq.length:=(bq ha)
   have hjn:(j:Int)<(aq.length:Int):=ae;have hj0:(0:Int)<=(j:Int):=ae;have aR:ai .i64 ((j:Int)+1)=(j:Int)+1:=wrap_i64 ae;have hk1:((j+1:Nat):Int)=(j:Int)+1:=ae;have e1:(aq.map (Ar.d e))[j]?=some (a.d e):=by simp[ha]
   obtain⟨s,l1,l2,c,i,u,q,ps,_,ex⟩:=a.gD e;rw[ex]at t e1;unfold tX at*;generalize aq.map (Ar.d e)=es at*;have i0:=idx e1;generalize p a=pa at*;refine Ex.of (n:=N+100) ?_;have jl:j<es.length:=(bq e1)
   have hjl:(j:Int)<(es.length:Int):=ae;unfold Vs;cases pa
   ·rw[if_neg aA,hk1];simp[ixL,f1105,t,hj0,hjn,jl,hjl,aR,e1,i0,hO,FV.az,FV.aP]
   ·rw[if_pos rfl];simp[ixL,f1105,t,hj0,hjn,jl,hjl,e1,i0,hO,FV.az,FV.aP])
  (by
   apply e6;unfold Vs;generalize aq.map (Ar.d e)=es at*;rw[<-hl];generalize es.length=n at*;simp[ixL,f1105])
 have h0:Ex E1 f1105.body.l (Vs g r0 (aq.map (Ar.d e)) B 0 .u |> fun s=>{s with vars:=(.d (.s 11 (aq.map (Ar.d e)))::.f g [] [.r (.old r0) 0]::qO)}) (.norm,Vs g r0 (aq.map (Ar.d e)) B 0 .u |> fun s=>{s with vars:=(.d (.s 11 (aq.map (Ar.d e)))::.f g [] [.r (.old r0) 0]::qO)}):=by
  apply e6;unfold Vs;simp[f1105]
 have h1 := nx h0 f1105.body.r.l.l (Vs g r0 (aq.map (Ar.d e)) B 0 .u) (by
  apply e6;unfold Vs;simp[f1105])
 cases hf:aq.findIdx? p with
 | some j =>
  rw[hf]at hloop;exact pR (E:=E1) (g:=1105) (F:=f1105) (B:=B) rfl (k1105:E1.fn _=_) rfl (Ex.seq h0 (Ex.dX (Ex.seq h1 (Ex.dA hloop)))) aA (by simp[finish,lL,F6,show f1105.res=[.var 2] from rfl,show f1105.ref=false from rfl,fZ,leaves,fI,oneOf,jY,D.norm,FV.rows,FV.nD,aJ])
 | none =>
  rw[hf]at hloop;have h2:Ex E1 f1105.body.r.r (Vs g r0 (aq.map (Ar.d e)) B aq.length (dB false)) (.ret,{vars:=(.u::.u::dI (-1)::lI),base:=B,loc:=[],aS:=false}):=by
   apply e6;unfold Vs;simp[f1105]
  exact pR (E:=E1) (g:=1105) (F:=f1105) (B:=B) rfl (k1105:E1.fn _=_) rfl (Ex.seq h0 (Ex.seq (Ex.seq h1 (Ex.block hloop)) h2)) aA (by simp[finish,lL,F6,show f1105.res=[.var 2] from rfl,show f1105.ref=false from rfl,fZ,leaves,fI,oneOf,jY,D.norm,FV.rows,FV.nD,aJ])
end
section
variable {α:Type} {e:α->W}
def arZ:D:=tX 0 0 0 false [] [] 0 false 0 [] []
def deL:aF:=f1102.body.r.r.r.l.r.bl.lp
def RX (o ak r0 n:Nat)(B:List ah)(R:List D)(J:List ah)(i j:Nat)(t:FV)(dt:Bool):St :=
 {vars:=[.ls (.old o) ak 11 0 n,.f 1103 [] [.r (.old r0) 0],.u,dI i,dI j,.u,.u,t,.u],base:=B.set o (.row ak 11 R),loc:=J,aS:=dt}
theorem Vt (o ak r0 n:Nat)(kk:Int)(ps:List Int)(B:List ah)(hO:iK B)(ho:o<B.length)(hor:o≠r0)(hB:B[r0]?=some (aG kk ps))(R:List (Ar α))(J:List ah)(hJ:iK J)(i j:Nat)(dt:Bool)(x:Ar α)(b:Bool)
  (hR:R.length=n) (hn:n<=1000000) (hx:R[j]?=some x) (hij:i<j) (hz:Ca E1 1104 [.d (aT kk ps),.d (e x.x).d] (dB b,none)) :
  ∃ J' DZ,iK J'/\Ex E1 deL (RX o ak r0 n B (R.map (Ar.d e)) J i j .u dt) (.norm,RX o ak r0 n B (if b then R.map (Ar.d e) else(R.set i x).map (Ar.d e)) J' (if b then i else i+1) (j+1) .u DZ):=by
 obtain⟨N,tz⟩:=Vr kk ps x b hz r0;have hj:j<R.length:=(bq hx)
 obtain⟨y,hy⟩:∃ y,R[i]?=some y:=⟨_,Qa1 ae⟩
 have hjn:(j:Int)<(n:Int):=ae;have hj0:(0:Int)<=(j:Int):=ae;have hin:(i:Int)<(n:Int):=ae;have hi0:(0:Int)<=(i:Int):=ae;have aR:ai .i64 ((j:Int)+1)=(j:Int)+1:=wrap_i64 ae;have afT:ai .i64 ((i:Int)+1)=(i:Int)+1:=wrap_i64 ae;have hk1:((j+1:Nat):Int)=(j:Int)+1:=ae;have hk2:((i+1:Nat):Int)=(i:Int)+1:=ae;have e1:(R.map (Ar.d e))[j]?=some (x.d e):=by simp[hx]
 have e2:(R.map (Ar.d e))[i]?=some (y.d e):=by simp[hy]
 have e3:(R.set i x).map (Ar.d e)=(R.map (Ar.d e)).set i (x.d e):=by rw[Q62]
 have t:∀ X m,CL E1 (N+m) 1103 [.d (x.d e),.r (.old r0) 0] (B.set o (.row ak 11 (R.map (Ar.d e)))++X)=some (dB b,none):=fun X m =>
  tz _ (by rw[Qa0 (by rw[Xi0];exact(bq hB)),Qd0 hor];exact hB) m
 have hO1:∀ m,(B.set o (.row ak 11 (R.map (Ar.d e)))).map (ah.az m)=B.set o (.row ak 11 (R.map (Ar.d e))):=fun m=>by rw[Q62,hO];rfl
 have hset:∀ r,(B.set o (.row ak 11 (R.map (Ar.d e)))).set o r=B.set o r:=fun r=>List.set_set ..
 have hg:∀ X,(B.set o (.row ak 11 (R.map (Ar.d e)))++X)[o]?=some (.row ak 11 (R.map (Ar.d e))):=fun X=>by rw[Qa0 (by simpa using ho)];exact Qf0 ho
 have hol:o<(B.set o (.row ak 11 (R.map (Ar.d e)))).length:=by simpa using ho
 have sA:∀ c c':ah,(J++[c]).set J.length c'=J++[c']:=fun c c'=>by simp
 have hJ2:iK (J++[.box ((x.d e).cells.map .d)]):=by
  intro m;rw[Qp2,hJ];simp[ah.az,eU,FV.az,Xo0]
 refine⟨J++[.box ((x.d e).cells.map .d)],if b then dt else true,hJ2,?_⟩;obtain⟨s,l1,l2,c,b',u,p,q,_,ex⟩:=x.gD e;obtain⟨s2,m1,m2,c2,b2,u2,p2,q2,_,ey⟩:=y.gD e;rw[e3];simp only[ex,ey]at t e1 e2 ⊢;clear ex ey hx hy hz tz hJ2 e3;unfold tX at*;have hjd:(R.map (Ar.d e)).length=n:=by simpa using hR
 generalize R.map (Ar.d e)=es at*;have i0:=idx e1;have i1:=idx e2;have jl:j<es.length:=(bq e1)
 have hie:i<es.length:=(bq e2)
 unfold RX;have i2:=fun X=>idx (hg X)
 refine Ex.of (n:=N+200) ?_;have hl1:¬ B.length<=o:=ae;cases b
 ·simp only[Qh1,if_false];rw[hk1,hk2];simp[deL,f1102,t,hj0,hjn,hi0,hin,jl,hie,aR,afT,i0,i1,hg,hO1,ho,sA,hset,FV.az,FV.aP,ah.az]
 ·simp only[if_true];rw[hk1];simp[deL,f1102,t,hj0,hjn,jl,aR,i0,hg,hO1,sA,FV.az,FV.aP,ah.az]
theorem Zr (o ak r0 n:Nat)(B:List ah)(R:List D)(J:List ah)(i:Nat)(dt:Bool):Ex E1 deL (RX o ak r0 n B R J i n .u dt) (.exit 0,RX o ak r0 n B R J i n (dB false) dt):=by
 apply e6;unfold RX;simp[deL,f1102]
theorem GN (o ak r0:Nat)(kk:Int)(ps:List Int)(B:List ah)(hO:iK B)(ho:o<B.length)(hor:o≠r0)(hB:B[r0]?=some (aG kk ps))(aq:List (Ar α))(hn:aq.length<=1000000)(dP:α->Bool)
  (hz:∀ a ∈ aq,Ca E1 1104 [.d (aT kk ps),.d (e a.x).d] (dB (dP a.x),none)) :
  ∀ (d j i:Nat) (R:List (Ar α)) (J:List ah) (dt:Bool),j+d=aq.length->i<j->R.length=aq.length->R.take i=(aq.take j).filter (fun a => !dP a.x)->R.drop j=aq.drop j->iK J ->
   ∃ (R':List (Ar α)) (J':List ah) (i':Nat) (DZ:Bool),Ex E1 (.loop deL) (RX o ak r0 aq.length B (R.map (Ar.d e)) J i j .u dt) (.exit 0,RX o ak r0 aq.length B (R'.map (Ar.d e)) J' i' aq.length (dB false) DZ) /\
    R'.length=aq.length/\R'.take i'=aq.filter (fun a => !dP a.x)/\i'<aq.length/\iK J'
 | 0,j,i,R,J,dt,hj,hij,hR,ht,_,hJ=>by
  obtain rfl:j=aq.length:=ae;rw[Qn0]at ht;exact⟨R,J,i,dt,Ex.leave (Zr ..) aA,hR,ht,hij,hJ⟩
 | d+1,j,i,R,J,dt,hj,hij,hR,ht,hd,hJ=>by
  have hlt:j<aq.length:=ae;have hxa:aq[j]?=some aq[j]:=Qa1 hlt;have hx:R[j]?=some aq[j]:=by
   have:(R.drop j)[0]?=(aq.drop j)[0]?:=by rw[hd]
   rw[Qx2,Qx2,Q70,hxa]at this;exact this
  obtain⟨J',DZ,hJ',hr⟩:=Vt o ak r0 aq.length kk ps B hO ho hor hB R J hJ i j dt aq[j] (dP aq[j].x) hR hn hx hij (hz _ (Qi0 hlt));have hf:(aq.take (j+1)).filter (fun a => !dP a.x)=(aq.take j).filter (fun a => !dP a.x)++(if dP aq[j].x then [] else [aq[j]]):=by
   rw[Qj1 hlt,List.filter_append];cases h:dP aq[j].x<;>simp[h]
  have hd2:R.drop (j+1)=aq.drop (j+1):=by
   have:=congrArg (List.drop 1) hd
   rwa [Xp0,Xp0]at this
  cases hb:dP aq[j].x with
  | true =>
   rw[hb]at hr hf;simp only[if_true]at hr hf;obtain⟨R',J2,i',dt2,h1,h2⟩:=GN o ak r0 kk ps B hO ho hor hB aq hn dP hz d (j+1) i R J' DZ ae ae hR (by rw[hf,Q10];exact ht) hd2 hJ';exact⟨R',J2,i',dt2,hr.next h1,h2⟩
  | false =>
   rw[hb]at hr hf;simp only[Qh1,if_false]at hr hf;obtain⟨R',J2,i',dt2,h1,h2⟩:=GN o ak r0 kk ps B hO ho hor hB aq hn dP hz d (j+1) (i+1) (R.set i aq[j]) J' DZ ae ae (by simpa using hR) (by
     rw[hf,<-ht,Qj1 (by simp;omega)];simp[List.take_set_of_le]) (by rw[List.drop_set_of_lt ae];exact hd2) hJ'
   exact⟨R',J2,i',dt2,hr.next h1,h2⟩
def deleted (e:α->W)(o ak:Nat)(B:List ah)(aq:List (Ar α))(r:FV × Option (List ah)):Prop :=
 ∃ row J,r=(.ls (.old o) ak 11 0 aq.length,some (B.set o (.row ak 11 row)++J))/\row.take aq.length=aq.map (Ar.d e)/\aq.length<=row.length
theorem Qy (o ak r0:Nat)(kk:Int)(ps:List Int)(B:List ah)(hO:iK B)(hor:o≠r0)(hB:B[r0]?=some (aG kk ps))(aq:List (Ar α))(hn:aq.length<=1000000)(dP:α->Bool)
  (hBo:B[o]?=some (.row ak 11 (aq.map (Ar.d e)))) (hz:∀ a ∈ aq,Ca E1 1104 [.d (aT kk ps),.d (e a.x).d] (dB (dP a.x),none)) :
  ∃ r N,(∀ m,CL E1 (N+m) 1102 [.ls (.old o) ak 11 0 aq.length,.f 1103 [] [.r (.old r0) 0]] B=some r)/\deleted e o ak B (aq.filter fun a => !dP a.x) r:=by
 have ho:o<B.length:=(bq hBo)
 have hself:B.set o (.row ak 11 (aq.map (Ar.d e)))=B:=by
  obtain⟨h,e'⟩:=Qw2.1 hBo;rw[<-e',List.set_getElem_self]
 have hOf:iK (B.set o (.gK ak 11 (aq.map (Ar.d e)))):=fun n=>by rw[Q62,hO];rfl
 obtain⟨N1,t1⟩:=CK (e:=e) 1103 r0 aq (fun a=>dP a.x) (B.set o (.gK ak 11 (aq.map (Ar.d e)))) hOf hn (fun a ha=>by
  obtain⟨N,t⟩:=Vr kk ps a _ (hz a ha) r0;exact⟨N,t _ (by rw[Qd0 hor];exact hB)⟩)
 have hset:∀ r,(B.set o (.row ak 11 (aq.map (Ar.d e)))).set o r=B.set o r:=fun r=>List.set_set ..
 have vw:(ah.row ak 11 (aq.map (Ar.d e))).view ak 11 0 aq.length=some (aq.map (Ar.d e)):=by
  have:List.take aq.length (aq.map (Ar.d e))=aq.map (Ar.d e):=Qe1 aA;simp[ah.view,this]
 cases hf:aq.findIdx? (fun a=>dP a.x) with
 | none =>
  have hall:aq.filter (fun a => !dP a.x)=aq:=by
   rw[X22];intro a ha;have:=Xf0.1 hf a ha;simpa using this
  rw[hf]at t1;rw[hall];refine⟨_,N1+200,fun m => ?_,⟨aq.map (Ar.d e),[],rfl,Qe1 aA,aA⟩⟩;rw[show N1+200+m=(N1+m)+200 by omega,av rfl (k1102:E1.fn _=_) rfl];replace t1:=fun k=>eT (t1 0) (show N1+0<=N1+m+k by omega)
  rw[hself];have i0:=idx hBo;have hO':∀ n,List.map (ah.az n) B=B:=hO;generalize aq.map (Ar.d e)=es,aq.length=n at*;simp[f1102,t1,i0,ho,hO',vw,ah.az,FV.az,FV.aP]
 | some i =>
  rw[Qs0]at hf;obtain⟨hi,hiz,hib⟩:=hf;have hf:aq.findIdx? (fun a=>dP a.x)=some i:=by
   rw[Qs0];exact⟨hi,hiz,hib⟩
  rw[hf]at t1;have htk:aq.take i=(aq.take (i+1)).filter (fun a => !dP a.x):=by
   rw[Qj1 hi,List.filter_append];have h1:(aq.take i).filter (fun a => !dP a.x)=aq.take i:=by
    rw[X22];intro a ha;obtain⟨j,hj⟩:=Xh2.1 ha;rw[Qo2]at hj;split at hj
    ·rename_i hji;have:=hib j hji;rw[Qa1 ae]at hj;cases hj;simpa using this
    ·cases hj
   rw[h1];simp[hiz]
  obtain⟨R',J',i',DZ,h1,h2,h3,h4,h5⟩:=GN o ak r0 kk ps B hO ho hor hB aq hn dP hz (aq.length-(i+1)) (i+1) i aq [] false ae ae rfl htk rfl (fun _=>rfl);have hO':∀ n,List.map (ah.az n) B=B:=hO;have i0:=idx hBo;have sA:Ex E1 f1102.body.l {vars:=(.ls (.old o) ak 11 0 aq.length::.f 1103 [] [.r (.old r0) 0]::sO),base:=B,loc:=[],aS:=false}
    (.norm,{vars:=(.ls (.old o) ak 11 0 aq.length::.f 1103 [] [.r (.old r0) 0]::sO),base:=B,loc:=[],aS:=false}):=by
   apply e6;simp[f1102]
  have sB := nx sA f1102.body.r.l {vars:=(.ls (.old o) ak 11 0 aq.length::.f 1103 [] [.r (.old r0) 0]::.u::dI i::lI),base:=B,loc:=[],aS:=false} (by
   refine Ex.of (n:=N1+60) ?_;clear sA h1 hf htk hib hiz hz;generalize aq.map (Ar.d e)=es,aq.length=n at*;simp[f1102,t1,i0,ho,hO',vw,ah.az,FV.az,FV.aP])
  have hneg:((i:Int)==-1)=false:=by
   rw[beq_eq_false_iff_ne];omega
  have hw:ai .i64 ((i:Int)+1)=(i:Int)+1:=wrap_i64 ae;have sC := nx sB f1102.body.r.r.l {vars:=[.ls (.old o) ak 11 0 aq.length,.f 1103 [] [.r (.old r0) 0],.u,dI i,.u,.u,dB false,.u,.u],base:=B,loc:=[],aS:=false} (by
   apply e6;simp[f1102,hneg])
  have sD := nx sC f1102.body.r.r.r.l.l (RX o ak r0 aq.length B (aq.map (Ar.d e)) [] i (i+1) .u false) (by
   have hk:((i+1:Nat):Int)=(i:Int)+1:=ae;apply e6;unfold RX;rw[hself,hk];simp[f1102,hw])
  have hRl:(R'.map (Ar.d e)).length=aq.length:=by simpa using h2
  have hsub:aq.length-i'≠0:=ae;have hadd:i'+(aq.length-i')=aq.length:=ae;have hi0:(0:Int)<=(i':Int):=ae;have hin:(i':Int)<=(aq.length:Int):=ae;have hol:o<(B.set o (.row ak 11 (R'.map (Ar.d e)))).length:=by simpa using ho
  have hg:∀ X,(B.set o (.row ak 11 (R'.map (Ar.d e)))++X)[o]?=some (.row ak 11 (R'.map (Ar.d e))):=fun X=>by rw[Qa0 hol];exact Qf0 ho
  have ig:=fun X=>idx (hg X)
  have hdr:List.drop aq.length (R'.map (Ar.d e))=[]:=Xx0 ae;have hl1:¬ B.length<=o:=ae;have sE:Ex E1 f1102.body.r.r.r.r.l (RX o ak r0 aq.length B (R'.map (Ar.d e)) J' i' aq.length (dB false) DZ)
    (.norm,{vars:=(.ls (.old o) ak 11 0 aq.length::.u::.u::dI i'::lI),base:=B.set o (.row ak 11 (List.take i' (R'.map (Ar.d e))++List.replicate (aq.length-i') arZ)),loc:=J',aS:=true}):=by
   apply e6;unfold RX arZ tX;clear sA sB sC sD h1 hf htk hib hiz hz t1 h3 h5;generalize R'.map (Ar.d e)=es,aq.length=n at*;simp[f1102,j4,F8,hsub,hadd,hi0,hin,hg,ho,hRl,hdr]
  have hfin:(aq.filter fun a => !dP a.x).length=i':=by
   rw[<-h3,Qr0];omega
  have sF:Ex E1 f1102.body.r.r.r.r.r {vars:=(.ls (.old o) ak 11 0 aq.length::.u::.u::dI i'::lI),base:=B.set o (.row ak 11 (List.take i' (R'.map (Ar.d e))++List.replicate (aq.length-i') arZ)),loc:=J',aS:=true}
    (.ret,{vars:=(.u::.u::.ls (.old o) ak 11 0 i'::qO),base:=B.set o (.row ak 11 (List.take i' (R'.map (Ar.d e))++List.replicate (aq.length-i') arZ)),loc:=J',aS:=true}):=by
   apply e6;clear sA sB sC sD sE h1 hf htk hib hiz hz t1 h3 h5 hg ig;generalize List.take i' (R'.map (Ar.d e))++List.replicate (aq.length-i') arZ=es at*;generalize aq.length=n at*;simp[f1102,j4,F8,hi0,hin]
  have hlt:(List.take i' (R'.map (Ar.d e))++List.replicate (aq.length-i') arZ).length=aq.length:=by simp;omega
  obtain⟨N,hN⟩:=pR (E:=E1) (g:=1102) (F:=f1102) (args:=[.ls (.old o) ak 11 0 aq.length,.f 1103 [] [.r (.old r0) 0]]) (B:=B) (o:=.ret)
   (r:=(.ls (.old o) ak 11 0 i',some (B.set o (.row ak 11 (List.take i' (R'.map (Ar.d e))++List.replicate (aq.length-i') arZ))++J'))) rfl (k1102:E1.fn _=_) rfl
   (sA.seq (sB.seq (sC.seq (Ex.seq (sD.seq (Ex.block h1)) (sE.seq sF))))) aA (by
    have e1:∀ k,List.map (ah.az k) J'=J':=h5;simp[finish,lL,F6,show f1102.res=[.var 2] from rfl,show f1102.ref=true from rfl,fI,oneOf,jY,FV.az,Q62,hO',e1,ah.az])
  refine⟨_,N,hN,⟨_,J',by rw[hfin],?_,by rw[hfin,hlt];omega⟩⟩;rw[hfin,List.take_append_of_le_length (by simp;omega),List.take_take,Nat.min_self,<-List.map_take,h3]
end
section
variable {α:Type} {e:α->W} {pl:α->α->α} {z:W} {dP:α->Bool} {G:Nat->α->Prop} {m:Nat} {kk:Int} {ps:List Int}
theorem RV.le (hW:RV kk ps e pl z dP G m){x:α}{n k:Nat}(h:G n x)(hk:n<=k):G k x:=by
 induction k with
 | zero => obtain rfl : n = 0 :=ae
           exact h
 | succ k ih =>
  rcases Q41 hk with rfl|h2
  ·exact h
  ·exact hW.mono _ _ (ih ae)
theorem Zt (hW:RV kk ps e pl z dP G m)(l:List (Ar α))(hl:l.length<=1000000)(hm:l.length<=m)(hg:∀ a ∈ l,G 1 a.x)(s:Nat)(L:List ah)(hJ:iK L)(h0:L[0]?=some (aG kk ps))(hs:L[s]?=some (.row 1 11 (l.map (Ar.d e)))) :
  ∃ out L',Ex E1 (.loop Zp) (JH s l.length 0 (.d (.n 11)) .u L false) (.exit 0,JH s l.length l.length out (dB false) L' false)/\L'[0]?=some (aG kk ps)/\iK L'/\kr e s out L' (mg pl l)/\(∀ a ∈ mg pl l,G (l.length+1) a.x)/\(mg pl l).length<=l.length:=by
 obtain⟨r,h1,out,L',h2,h3,h4,h5,h6,h7⟩:=Ex.fold (E:=E1) (b:=Zp) l (ko pl) []
  (fun j acc st=>∃ out L,st=JH s l.length j out .u L false/\L[0]?=some (aG kk ps)/\L[s]?=some (.row 1 11 (l.map (Ar.d e)))/\iK L/\kr e s out L acc/\(∀ a ∈ acc,G j a.x)/\acc.length<=j)
  (fun acc r=>∃ out L,r=(.exit 0,JH s l.length l.length out (dB false) L false)/\L[0]?=some (aG kk ps)/\iK L/\kr e s out L acc/\(∀ a ∈ acc,G l.length a.x)/\acc.length<=l.length)
  (fun j x st hx ⟨out,L,hst,g0,gs,gJ,g1,g2,g3⟩=>by
   subst hst;have hj:j<l.length:=(bq hx)
   have hgx:=hg x (Qa2 hx);generalize hacc:(l.take j).foldl (ko pl) []=acc at*;have hq:∀ y ∈ ko pl acc x,G (j+1) y.x:=MF pl x (fun a=>G j a.x) (fun a=>G (j+1) a.x) (hW.le hgx ae) (fun y h=>hW.mono _ _ h) (fun y h=>hW.pg _ _ _ ae h hgx) acc g2;have hlen:=MG pl x acc
   by_cases hy:∃ q y,acc=q++[y]/\nC y x
   ·obtain⟨q,y,rfl,he⟩:=hy;have e1:ko pl (q++[y]) x=q++[iX pl y x]:=by rw[kZ,if_pos he]
    rw[e1]at hq hlen ⊢;simp only[Qb0,Xe1]at g3;obtain⟨L',k1,k2,k3,k4,k5⟩:=Zq kk ps s l.length j out L false q l pl x y g0 gs rfl hl hx g1 ae ((AL y x).2 he) (hW.p1 j y.x x.x ae (g2 y aA) hgx);exact⟨_,k1,out,L',rfl,k2,k3,k5 gJ,k4,hq,by simp;omega⟩
   ·have hno:∀ y,acc.getLast?=some y->¬ nC y x:=by
     intro y h1 h2;obtain⟨q,h3⟩:=List.getLast?_eq_some_iff.1 h1;exact hy ⟨q,y,h3,h2⟩
    have e1:ko pl acc x=acc++[x]:=by
     rcases Q91 acc with rfl|⟨q,y,rfl⟩
     ·rfl
     ·rw[Q22]at*;rw[kZ,if_neg (hno y aA)]
    rw[e1]at hq hlen ⊢;obtain⟨out',L',k1,k2,k3,k4,k5⟩:=acZ kk ps s l.length j out L false acc l x z g0 gs rfl hl hx g1 ae (fun y h1 h2=>hno y h1 ((AL y x).1 h2)) hW.zero (hW.pz x.x hgx);exact⟨_,k1,out',L',rfl,k2,k3,k5 gJ,k4,hq,by simp;omega⟩)
  (fun st ⟨out,L,hst,g0,gs,gJ,g1,g2,g3⟩=>by
   subst hst;refine⟨_,Ex.of (n:=60) (r:=(.exit 0,JH s l.length l.length out (dB false) L false)) ?_,aA,out,L,rfl,g0,gJ,g1,g2,g3⟩;unfold JH;generalize l.length=n at*;simp[Zp,f1064])
  (st:=JH s l.length 0 (.d (.n 11)) .u L false) ⟨_,L,rfl,h0,hs,hJ,.inl ⟨rfl,rfl⟩,aA,aA⟩
 subst h2;rw[Zn]at h5 h6 h7;exact⟨out,L',h1,h3,h4,h5,fun a ha=>hW.mono _ _ (h6 a ha),h7⟩
theorem MH (B:List ah):∃ N,∀ m,CL E1 (N+m) 1101 [.d (.s 11 []),.d (.fn 1070)] B=some (.d (.t []),none):=by
 have w1:ai .i64 1=1:=wrap_i64 ae;have h1:∀ (B:List ah) m,CL E1 (m+100) 1208 [.d (.s 11 []),dI 0,dI 0,.d (.fn 1070)] B=some (.d (.t []),none):=by
  intro B m;rw[av rfl (k1208:E1.fn _=_) rfl];simp[f1208,aC,w1,uz,FV.aP,FV.az]
 have h2:∀ (B:List ah) m,CL E1 (m+300) 1138 [.d (.s 11 []),dI 0,.d (.fn 1070)] B=some (.d (.t []),none):=by
  intro B m;rw[av rfl (k1138:E1.fn _=_) rfl];simp[f1138,aC,h1,uz,FV.aP,FV.az]
 refine⟨500,fun m => ?_⟩;rw[show 500+m=m+500 by omega,av rfl (k1101:E1.fn _=_) rfl];simp[f1101,h2,uz,FV.aP,FV.az]
theorem MI (B:List ah)(hB:iK B):∃ N,∀ m,CL E1 (N+m) 1102 [.d (.n 11),.f 1103 [] [.r (.old 0) 0]] B=some (.d (.n 11),none):=by
 obtain⟨N1,t1⟩:=CK (α:=W) (e:=id) 1103 0 [] (fun _=>false) B hB aA (fun a ha=>by cases ha);have hB':∀ n,List.map (ah.az n) B=B:=hB;refine⟨N1+200,fun m => ?_⟩;rw[show N1+200+m=(N1+m)+200 by omega,av rfl (k1102:E1.fn _=_) rfl];replace t1:=fun k=>eT (t1 0) (show N1+0<=N1+m+k by omega)
 simp only[Qc1,List.findIdx?_nil]at t1;simp[f1102,t1,hB',FV.az,FV.aP]
end
section
variable {α:Type} {e:α->W} {pl:α->α->α} {z:W} {dP:α->Bool} {G:Nat->α->Prop} {m:Nat} {kk:Int} {ps:List Int}
theorem Vu (s:Nat)(v8:FV)(n:Nat)(out:FV)(L:List ah)(aq:List (Ar α))(hJ:iK L)(h0:L[0]?=some (aG kk ps))(ho:kr e s out L aq)(hn:aq.length<=1000000)
  (hz:∀ a ∈ aq,Ca E1 1104 [.d (aT kk ps),.d (e a.x).d] (dB (dP a.x),none)) :
  ∃ st,Ex E1 f1064.body.r.r.r.r.r (st0 [.u,.u,rL 0,.u,.u,out,.u,.u,v8,dI n,dI n,dB false,.u] L) (.ret,st) /\
   finish f1064 st=some (.d (.s 11 ((aq.filter fun a => !dP a.x).map (Ar.d e))),none):=by
 have hJ0:List.map (ah.az 0) L=L:=hJ 0;rcases ho with ⟨rfl,rfl⟩|⟨i,ak,_,rfl,hrow⟩
 ·obtain⟨N,t⟩:=MI L hJ;refine⟨(st0 (.u::.u::.u::.d (.n 11)::NB) L),Ex.of (n:=N+100) ?_,?_⟩
  ·simp[f1064,t,hJ0,FV.az,FV.aP]
  ·simp[show f1064.res=[.var 3] from rfl,show f1064.ref=false from rfl]
 ·have hi0:i≠0:=fun h=>by subst h;rw[h0]at hrow;cases hrow
  obtain⟨r,N,t,row,J,rfl,h1,h2⟩:=Qy i ak 0 kk ps L hJ hi0 h0 aq hn dP hrow hz;have hi:i<L.length:=(bq hrow)
  generalize hk:aq.filter (fun a => !dP a.x)=ks at*;have hg:(L.set i (.row ak 11 row)++J)[i]?=some (.row ak 11 row):=by
   rw[Qa0 (by simpa using hi)];exact Qf0 hi
  generalize L.set i (.row ak 11 row)++J=L2 at*;refine⟨(st0 (.u::.u::.u::.ls (.loc i) ak 11 0 ks.length::NB) L2),Ex.of (n:=N+100) ?_,?_⟩
  ·generalize aq.length=n2,ks.length=n3 at*;simp[f1064,t,hJ0,FV.az,FV.aP]
  ·have h9:ah.view ak 11 0 ks.length (.row ak 11 row)=some (ks.map (Ar.d e)):=by
    have h2':0+ks.length<=row.length:=ae;simp only[ah.view,h2',and_self,if_true,Xu1,h1]
   simp[show f1064.res=[.var 3] from rfl,show f1064.ref=false from rfl,hg,h9]
theorem Zu (hW:RV kk ps e pl z dP G m)(l:List (Ar α))(hl:l.length<20)(hm:l.length<m)(hg:∀ a ∈ l,G 1 a.x) :
  Ca E1 1064 [.d (aT kk ps),.d (.s 11 (l.map (Ar.d e)))] (.d (.s 11 (((dK pl l).filter fun a => !dP a.x).map (Ar.d e))),none):=by
 have sA:Ex E1 f1064.body.l (st0 (.d (aT kk ps)::.d (.s 11 (l.map (Ar.d e)))::KQ) [])
   (.norm,(st0 (.u::.d (.s 11 (l.map (Ar.d e)))::rL 0::qP) [aG kk ps])):=by
  apply e6;unfold aT aG;simp[f1064]
 have hrg:∀ n,ah.az n (aG kk ps)=aG kk ps:=kN [vI kk,.s 1 (LK .i64 ps)];cases hl0:l with
 | nil =>
  obtain⟨N,t⟩:=MH [aG kk ps];have tc:∀ k,CL E1 k 1100 [.d (.s 11 [])] [aG kk ps]=some (.d (.s 11 []),none):=fun k=>by
   rw[rG (p:=qY 11) rfl (aaR:E1.fn _=_) rfl];rfl
  obtain⟨st,h7,h8⟩:=Vu (e:=e) (dP:=dP) 0 (.d (.s 11 [])) 0 (.d (.n 11)) [aG kk ps] [] (iK.one hrg) rfl (.inl ⟨rfl,rfl⟩) aA aA;rw[hl0]at sA;have sB:Ex E1 (.seq f1064.body.r.l (.seq f1064.body.r.r.l (.seq f1064.body.r.r.r.l (.seq f1064.body.r.r.r.r.l f1064.body.r.r.r.r.r)))) (st0 (.u::.d (.s 11 [])::rL 0::qP) [aG kk ps]) (.ret,st):=by
   refine Ex.seq (st1:=(st0 (.u::.u::rL 0::.u::.d (.s 11 [])::zZ) [aG kk ps])) ?_ (Ex.seq (st1:=(st0 (.u::.u::rL 0::.u::.d (.s 11 [])::zZ) [aG kk ps])) ?_ (Ex.seq (st1:=(st0 (.u::.u::rL 0::.u::.d (.s 11 [])::.d (.n 11)::sO) [aG kk ps])) ?_ (Ex.seq ?_ h7)))
   ·apply e6;generalize aG kk ps=rb at*;simp[f1064,tc,hrg,FV.az,FV.aP]
   ·refine Ex.of (n:=N+60) ?_;generalize aG kk ps=rb at*;simp[f1064,t,hrg,FV.az,FV.aP]
   ·apply e6;simp[f1064]
   ·apply e6;simp[f1064,aC]
  exact Ca.body (o:=.ret) rfl (k1064:E1.fn _=_) rfl (sA.seq sB) aA h8
 | cons a0 l0 =>
  rw[<-hl0];have hne:0<l.length:=by rw[hl0];simp
  clear hl0;have hel:(l.map (Ar.d e)).length=l.length:=aA;have tc:∀ k,CL E1 k 1100 [.d (.s 11 (l.map (Ar.d e)))] [aG kk ps]=some (.ls (.old 1) 1 11 0 l.length,some [aG kk ps,.row 1 11 (l.map (Ar.d e))]):=fun k=>by
   rw[rG (p:=qY 11) rfl (aaR:E1.fn _=_) rfl];have hle:(l.map (Ar.d e)).length<=1000000:=ae;cases hm:l.map (Ar.d e) with
   | nil=>rw[hm]at hel;simp at hel;omega
   | cons d ds =>
    rw[hm]at hel hle;have hl2:l.length<=1000000:=ae;simp only[qY,hel,hl2,and_self,if_true];simp[hrg]
  obtain⟨r,N,t0,hr⟩:=Qw 1 1 [aG kk ps,.row 1 11 (l.map (Ar.d e))] l rfl (fun n=>by simp only[Qe2,Qc1,hrg,l5]) hl;have t:∀ k,CL E1 (N+k) 1101 [.ls (.old 1) 1 11 0 l.length,.d (.fn 1070)] [aG kk ps,.row 1 11 (l.map (Ar.d e))]=some r:=fun k=>by
   have:=t0 k;rw[jy]at this ⊢;exact rH uY (wF uY _) this
  obtain⟨out,L,h1,h2,h3,h4,h5,h6⟩:=Zt hW (bA l) (by rw[kY];omega) (by rw[kY];omega) (fun a ha=>hg a (JG ha)) 1 [aG kk ps,.row 1 11 ((bA l).map (Ar.d e))] (fun n=>by simp only[Qe2,Qc1,hrg,l5]) rfl rfl;rw[kY]at h1 h5 h6;rw[Zm]at h4 h5 h6;obtain⟨st,h7,h8⟩:=Vu (dP:=dP) 1 (.ls (.loc 1) 1 11 0 l.length) l.length out L (dK pl l) h3 h2 h4 ae (fun a ha=>hW.z1 _ _ ae (h5 a ha));have sB := nx sA f1064.body.r.l (st0 (.u::.u::rL 0::.u::.ls (.loc 1) 1 11 0 l.length::zZ) [aG kk ps,.row 1 11 (l.map (Ar.d e))]) (by
   apply e6;clear h1 h7 h8 h4 sA hel;generalize l.map (Ar.d e)=es,l.length=n,aG kk ps=rb at*;simp[f1064,tc,hrg,FV.az,FV.aP])
  have sC := nx sB f1064.body.r.r.l (st0 (.u::.u::rL 0::.u::.ls (.loc 1) 1 11 0 l.length::zZ) [aG kk ps,.row 1 11 ((bA l).map (Ar.d e))]) (by
   refine Ex.of (n:=N+60) ?_;clear h1 h7 h8 h4 sA sB hel;rcases hr with ⟨rfl,hs⟩|rfl
   ·rw[hs];clear hs;generalize l.map (Ar.d e)=es,l.length=n,aG kk ps=rb at*;simp[f1064,t,hrg,l5,FV.az,FV.aP]
   ·generalize l.map (Ar.d e)=es at*;generalize (bA l).map (Ar.d e)=es2,l.length=n,aG kk ps=rb at*;simp[f1064,t,hrg,l5,FV.az,FV.aP])
  have sD := nx sC f1064.body.r.r.r.l (st0 (.u::.u::rL 0::.u::.ls (.loc 1) 1 11 0 l.length::.d (.n 11)::sO) [aG kk ps,.row 1 11 ((bA l).map (Ar.d e))]) (by
   apply e6;generalize l.length=n at*;simp[f1064])
  have sE := nx sD f1064.body.r.r.r.r.l.l (JH 1 l.length 0 (.d (.n 11)) .u [aG kk ps,.row 1 11 ((bA l).map (Ar.d e))] false) (by
   apply e6;unfold JH;generalize l.length=n at*;simp[f1064])
  exact Ca.body (o:=.ret) rfl (k1064:E1.fn _=_) rfl (sA.seq (sB.seq (sC.seq (sD.seq (Ex.seq (sE.seq (Ex.block h1)) h7))))) aA h8
end
end Fi.S
