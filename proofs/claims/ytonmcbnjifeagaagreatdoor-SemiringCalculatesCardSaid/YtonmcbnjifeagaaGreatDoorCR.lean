/- Better; the stars of weightedref03. -/
import Derived.Test.YtonmcbnjifeagaaGreatDoorCQ
import Derived.Test.YtonmcbnjifeagaaGreatDoorCN
import Derived.Test.YtonmcbnjifeagaaGreatDoorCP
set_option linter.unusedVariables false
set_option linter.unusedSimpArgs false
noncomputable section
namespace Fi.S
open Go Fi
set_option maxHeartbeats 8000000
set_option maxRecDepth 10000
def Uk (k:Int):Sv->Sv->Bool
 | .c i n,.c j m=>pE i n j m
 | .q x,.q y=>k==3&&decide (y<x)
 | _,_=>false
theorem zK (x y:W):Ca E1 118 [.d x.d,.d y.d] (.d (.v (.bool false)),none):=by
 obtain⟨xs,Eb,Ec,xc,xb,xu,xp,Ed,ex⟩:=x.av;obtain⟨ys,PQ,PR,yc,yb,yu,yp,yps,ey⟩:=y.av;simp only[ex,ey];refine Ca.a_ (n:=100) ?_;rw[ah rfl (k118:E1.fn _=_) rfl];unfold wD;simp -implicitDefEqProofs [f118]
def J9 (k:Int):Nat:=if k=2 then 126 else if k=3 then 136 else 118
theorem jH {k:Int}(hk:single k=true)(v w x y:W)(b:Bool)(hv:Ca E1 41 [.d (aT k []),.d v.d] (.d x.d,none))(hw:Ca E1 41 [.d (aT k []),.d w.d] (.d y.d,none))(h:Ca E1 (J9 k) [.d x.d,.d y.d] (.d (.v (.bool b)),none)):Ca E1 24 [.d (aT k []),.d v.d,.d w.d] (.d (.v (.bool b)),none):=by
 obtain⟨K,hK,t1,t2,t42,t⟩:=(hv.j (hw.j ((qw hk).j h.any))).at 500;have t31:=fun m=>bZ (lJ (sv1 hk) 0) (show 0+500<=K+m by omega)
 obtain⟨vs,vD,vE,vc,vb,vu,vp,vF,ev⟩:=v.av;obtain⟨ws,FH,FI,wc,wb,wu,wp,FJ,ew⟩:=w.av;obtain⟨xs,Eb,Ec,xc,xb,xu,xp,Ed,ex⟩:=x.av;obtain⟨ys,PQ,PR,yc,yb,yu,yp,yps,ey⟩:=y.av;simp only[ev,ew,ex,ey]at t1 t2 t ⊢;clear ev ew ex ey hK hv hw h;refine Ca.a_ (n:=K+100) ?_;rw[ah rfl (k24:E1.fn _=_) rfl];unfold wD aT at*;simp only[show LK .i64 []=[] from rfl]at*;rcases aM hk with rfl|rfl|rfl|rfl|rfl
 all_goals
  simp[J9,jG,eQ,ll,gz,fA,fT,gB,fB,fU,gD,fC,fV,eP]at t42 t;simp -implicitDefEqProofs [f24,t31,t1,t2,t42,t,FV.ag,FV.aK,FV.shift,FV.cK,ae.shift,ae.ag]
theorem FX {ps:List Int}(hv:aH 6 ps=true)(v w:W):Ca E1 24 [.d (aT 6 ps),.d v.d,.d w.d] (.d (.v (.bool false)),none):=by
 obtain⟨K,hK⟩:∃ K,K=100000:=⟨_,rfl⟩
 have t31:=fun m=>bZ (lJ (k:=6) (ps:=ps) hv 0) (show 0+500<=K+m by omega)
 obtain⟨vs,vD,vE,vc,vb,vu,vp,vF,ev⟩:=v.av;obtain⟨ws,FH,FI,wc,wb,wu,wp,FJ,ew⟩:=w.av;simp only[ev,ew];clear ev ew hK;refine Ca.a_ (n:=K+100) ?_;rw[ah rfl (k24:E1.fn _=_) rfl];unfold wD aT at*;generalize LK .i64 ps=l0 at*;simp (maxSteps:=1000000) -implicitDefEqProofs [f24,t31]
theorem j5 {kk:Int}{ps:List Int}(hv:aH kk ps=true)(h2:kk≠2)(h3:kk≠3)(v w:W)(x y:W)(tx:Ca E1 53 [.d (aT kk ps),.d v.d] (.d x.d,none))(ty:Ca E1 53 [.d (aT kk ps),.d w.d] (.d y.d,none)):Ca E1 25 [.d (aT kk ps),.d v.d,.d w.d] (.d (.v (.bool false)),none):=by
 have tv:=Ca.dO (Ca.a_ (bG 0 kk ps));rw[show aH kk ps=true from hv]at tv;obtain⟨K,hK,a0,a1,a2⟩:=((tv).j ((tx).j ((ty).any))).at 0;obtain⟨vs,vD,vE,vc,vb,vu,vp,vF,ev⟩:=v.av;obtain⟨ws,FH,FI,wc,wb,wu,wp,FJ,ew⟩:=w.av;simp only[ev,ew]at a1 a2 ⊢;clear hK tv tx ty ev ew;obtain⟨xs,Eb,Ec,xc,xb,xu,xp,Ed,ex⟩:=x.av;obtain⟨ys,PQ,PR,yc,yb,yu,yp,yps,ey⟩:=y.av;simp only[ex,ey]at a1 a2;clear ex ey;refine Ca.a_ (n:=K+300) ?_;rw[ah rfl (k25:E1.fn _=_) rfl];unfold wD aT at*;generalize LK .i64 ps=l0 at*;simp -implicitDefEqProofs [f25,a0,a1,a2,h2,h3]
theorem Dx (v w:W)(x y:Rat)(hx:qz x<=10000000)(hy:qz y<=10000000)(tx:Ca E1 53 [.d (aT 3 []),.d v.d] (.d (Sv.q x).w.d,none))(ty:Ca E1 53 [.d (aT 3 []),.d w.d] (.d (Sv.q y).w.d,none)):Ca E1 25 [.d (aT 3 []),.d v.d,.d w.d] (.d (.v (.bool (decide (y<x)))),none):=by
 have tv:=Ca.dO (Ca.a_ (bG 0 3 []));rw[show aH 3 []=true from rfl]at tv;obtain⟨K,hK,a0,a1,a2,a3⟩:=((tv).j ((tx).j ((ty).j ((Ca.dO (l_ y x hy hx)).any)))).at 0;obtain⟨vs,vD,vE,vc,vb,vu,vp,vF,ev⟩:=v.av;obtain⟨ws,FH,FI,wc,wb,wu,wp,FJ,ew⟩:=w.av;simp only[ev,ew]at a1 a2 ⊢;clear hK tv tx ty ev ew;obtain⟨s1,n1,d1,e1,g1⟩:=oC x;obtain⟨s2,n2,d2,e2,g2⟩:=oC y;rw[g1,g2]at a3;rw[e1]at a1;rw[e2]at a2;generalize decide (y<x)=b at*;clear e1 e2 g1 g2 hx hy;refine Ca.a_ (n:=K+300) ?_;rw[ah rfl (k25:E1.fn _=_) rfl];unfold wD aT at*;simp only[show LK .i64 []=[] from rfl]at*;simp -implicitDefEqProofs [f25,a0,a1,a2,a3]
theorem Dy (v w:W)(i j:Bool)(n m:Int)(tx:Ca E1 53 [.d (aT 2 []),.d v.d] (.d (Sv.c i n).w.d,none))(ty:Ca E1 53 [.d (aT 2 []),.d w.d] (.d (Sv.c j m).w.d,none)):Ca E1 25 [.d (aT 2 []),.d v.d,.d w.d] (.d (.v (.bool (pE i n j m))),none):=by
 have tv:=Ca.dO (Ca.a_ (bG 0 2 []));rw[show aH 2 []=true from rfl]at tv;obtain⟨K,hK,a0,a1,a2⟩:=((tv).j ((tx).j ((ty).any))).at 0;obtain⟨vs,vD,vE,vc,vb,vu,vp,vF,ev⟩:=v.av;obtain⟨ws,FH,FI,wc,wb,wu,wp,FJ,ew⟩:=w.av;simp only[ev,ew]at a1 a2 ⊢;clear hK tv tx ty ev ew;have hc1:(Sv.c i n).w.d=wD false [] [] n i 0 [] []:=rfl;have hc2:(Sv.c j m).w.d=wD false [] [] m j 0 [] []:=rfl;rw[hc1]at a1;rw[hc2]at a2;clear hc1 hc2;refine Ca.a_ (n:=K+300) ?_;rw[ah rfl (k25:E1.fn _=_) rfl];unfold wD aT at*;simp only[show LK .i64 []=[] from rfl]at*;unfold pE
 by_cases h:n<m<;>cases i<;>cases j<;>simp only[h,Bool.not_true,Bool.not_false,Bool.false_and,Bool.true_and,Bool.and_true,Bool.or_true,Bool.true_or,Bool.false_or,decide_true,decide_false] <;>
 simp -implicitDefEqProofs [f25,a0,a1,a2,h]
end Fi.S
namespace Fi.S
open Go Fi
theorem Ul {kk:Int}{ps:List Int}{S M:Nat}{xs ys:List Sv}(hv:aH kk ps=true)(hS:S<=100000)(hM:(M+M)*(S+1)<=5000000)(hx:lY S M (ky kk ps) xs)(hy:lY S M (ky kk ps) ys){v w:W}(vx:Ca E1 41 [.d (aT kk ps),.d v.d] (.d (jS kk xs).d,none))(vy:Ca E1 41 [.d (aT kk ps),.d w.d] (.d (jS kk ys).d,none)) :
  Ca E1 14 [.d (aT kk ps),.d v.d,.d w.d] (.d (jS kk (qW (ky kk ps) xs ys)).d,none):=by
 unfold jS ky at*
 by_cases h6:kk=6
 ·subst h6;simp only[if_true]at*;exact Ip hS hM hv _ _ hx hy vx vy
 ·simp only[if_neg h6]at*;obtain⟨rfl,hs⟩:=kz hv h6;obtain⟨x,rfl,hx'⟩:=iO hx;obtain⟨y,rfl,hy'⟩:=iO hy;exact P5 hs _ _ _ _ _ vx vy (FK hs hS hM hx' hy')
theorem Qz {kk:Int}{ps:List Int}{S M:Nat}{xs ys:List Sv}(hv:aH kk ps=true)(hS:S<=100000)(hM:M*(M*(2*S+1))<=5000000)(hx:lY S M (ky kk ps) xs)(hy:lY S M (ky kk ps) ys){v w:W}(vx:Ca E1 41 [.d (aT kk ps),.d v.d] (.d (jS kk xs).d,none))(vy:Ca E1 41 [.d (aT kk ps),.d w.d] (.d (jS kk ys).d,none)) :
  Ca E1 13 [.d (aT kk ps),.d v.d,.d w.d] (.d (jS kk (nH xs ys)).d,none):=by
 unfold jS ky at*
 by_cases h6:kk=6
 ·subst h6;simp only[if_true]at*;refine LF hv _ _ _ _ _ (by simp[hx.1]) (by simp[hy.1]) (by simp[nH,hx.1,hy.1]) vx vy (fun i k x y z hk hxi hyi hzi => ?_);obtain⟨x',g1,rfl⟩:=vH hxi;obtain⟨y',g2,rfl⟩:=vH hyi;obtain⟨z',g3,rfl⟩:=vH hzi;obtain⟨x'',y'',f2,f3,rfl⟩:=BJ g3;obtain rfl:=J2 g1 f2;obtain rfl:=J2 g2 f3;exact BF ((P6 hv).2.2 k (List.mem_of_getElem? hk)) hS hM (hx.2 i k _ hk g1) (hy.2 i k _ hk g2)
 ·simp only[if_neg h6]at*;obtain⟨rfl,hs⟩:=kz hv h6;obtain⟨x,rfl,hx'⟩:=iO hx;obtain⟨y,rfl,hy'⟩:=iO hy;exact LC hs _ _ _ _ _ vx vy (BF hs hS hM hx' hy')
def aa9 (kk:Int)(xs ys:List Sv):Bool:=match xs,ys with
 | [x],[y]=>Uk kk x y
 | _,_=>false
theorem Dz {kk:Int}{ps:List Int}(hv:aH kk ps=true){v w:W}{xs ys:List Sv}(hx:lY 3 8 (ky kk ps) xs)(hy:lY 3 8 (ky kk ps) ys)
  (vx:Ca E1 41 [.d (aT kk ps),.d v.d] (.d (jS kk xs).d,none)) (vy:Ca E1 41 [.d (aT kk ps),.d w.d] (.d (jS kk ys).d,none))
  (tx:Ca E1 53 [.d (aT kk ps),.d v.d] (.d (jS kk xs).d,none)) (ty:Ca E1 53 [.d (aT kk ps),.d w.d] (.d (jS kk ys).d,none)) :
  ∃ b,Ca E1 24 [.d (aT kk ps),.d v.d,.d w.d] (.d (.v (.bool b)),none)/\Ca E1 25 [.d (aT kk ps),.d v.d,.d w.d] (.d (.v (.bool b)),none):=by
 by_cases h6:kk=6
 ·subst h6;exact⟨false,FX hv v w,j5 hv (by decide) (by decide) v w _ _ tx ty⟩
 ·obtain⟨rfl,hs⟩:=kz hv h6;have e:ky kk []=[kk]:=if_neg h6;rw[e]at hx hy;obtain⟨x,rfl,hx'⟩:=iO hx;obtain⟨y,rfl,hy'⟩:=iO hy;rw[mk_one hs]at vx vy tx ty;rcases aM hs with rfl|rfl|rfl|rfl|rfl
  ·exact⟨false,jH hs v w _ _ _ vx vy (zK _ _),j5 hv (by decide) (by decide) v w _ _ tx ty⟩
  ·obtain⟨i,n,rfl,_⟩:=Vg hx';obtain⟨j,m,rfl,_⟩:=Vg hy';exact⟨_,jH hs v w _ _ _ vx vy (Fz i j n m),Dy v w i j n m tx ty⟩
  ·obtain⟨a,rfl,_,_,ha⟩:=Vh hx';obtain⟨b,rfl,_,_,hb⟩:=Vh hy';exact⟨_,jH hs v w _ _ _ vx vy (zz a b (by omega) (by omega)),Dx v w a b (by omega) (by omega) tx ty⟩
  ·exact⟨false,jH hs v w _ _ _ vx vy (zK _ _),j5 hv (by decide) (by decide) v w _ _ tx ty⟩
  ·exact⟨false,jH hs v w _ _ _ vx vy (zK _ _),j5 hv (by decide) (by decide) v w _ _ tx ty⟩
theorem Iu {kk:Int}{ps:List Int}(hv:aH kk ps=true){v w:W}(htv:v.uZ)(Z8:w.uZ)(hlv:v.bI=true)(Z9:w.bI=true) :
  (∃ R:W,Ca E1 14 [.d (aT kk ps),.d v.d,.d w.d] (.d R.d,none)/\Ca E1 19 [.d (aT kk ps),.d v.d,.d w.d] (.d R.d,none)/\Ca E1 12 [.d R.d,.d R.d] (.d (.v (.bool true)),none)) /\
  (∃ R:W,Ca E1 13 [.d (aT kk ps),.d v.d,.d w.d] (.d R.d,none)/\Ca E1 21 [.d (aT kk ps),.d v.d,.d w.d] (.d R.d,none)/\Ca E1 12 [.d R.d,.d R.d] (.d (.v (.bool true)),none)) /\
  ∃ b,Ca E1 24 [.d (aT kk ps),.d v.d,.d w.d] (.d (.v (.bool b)),none)/\Ca E1 25 [.d (aT kk ps),.d v.d,.d w.d] (.d (.v (.bool b)),none):=by
 have hs:=mG hv;obtain⟨xs,hx,vx,tx⟩:=pI hv htv hlv;obtain⟨ys,hy,vy,ty⟩:=pI hv Z8 Z9;refine⟨⟨_,Ul hv (by omega) (by omega) hx hy vx vy,Qk hv (by omega) (by omega) hx hy tx ty,qA (S:=3+3+1) (M:=8+8) hv (by omega) (LJ (by omega) hs hx hy)⟩,
  ⟨_,Qz hv (by omega) (by omega) hx hy vx vy,LW hv (by omega) (by omega) (by omega) hx hy tx ty,qA hv ?_ (Iq (by omega) (by omega) hs hx hy)⟩,
  Dz hv hx hy vx vy tx ty⟩
 omega
end Fi.S
namespace Fi.S
open Go Fi
set_option maxHeartbeats 8000000
set_option maxRecDepth 10000
def noW:W:=.mk false [] [] 0 false 0 [] []
theorem J_:noW.d=.a [.v (.bool false),.s 1 [],.s 1 [],.v (.int .i64 0),.v (.bool false),.v (.int .u64 0),.s 6 [],.s 8 []]:=rfl
theorem Um {kk:Int}{ps:List Int}(h:aH kk ps=false)(v w:W):Ca E1 14 [.d (aT kk ps),.d v.d,.d w.d] (.d noW.d,none)/\Ca E1 13 [.d (aT kk ps),.d v.d,.d w.d] (.d noW.d,none)/\Ca E1 24 [.d (aT kk ps),.d v.d,.d w.d] (.d (.v (.bool false)),none)/\Ca E1 17 [.d (aT kk ps),.d v.d] (.d (.t [noW.d,.v (.int .i64 6)]),none)/\Ca E1 19 [.d (aT kk ps),.d v.d,.d w.d] (.d noW.d,none)/\Ca E1 21 [.d (aT kk ps),.d v.d,.d w.d] (.d noW.d,none)/\Ca E1 25 [.d (aT kk ps),.d v.d,.d w.d] (.d (.v (.bool false)),none)/\Ca E1 23 [.d (aT kk ps),.d v.d] (.d (.t [noW.d,.v (.int .i64 6)]),none):=by
 obtain⟨Kq,_,a0,b0⟩:=((Ca.dO (Ca.a_ (nu 0 kk ps))).j ((Ca.dO (Ca.a_ (bG 0 kk ps))).any)).at 0;rw[h]at a0 b0;obtain⟨vs,vD,vE,vc,vb,vu,vp,vF,ev⟩:=v.av;obtain⟨ws,FH,FI,wc,wb,wu,wp,FJ,ew⟩:=w.av;simp only[ev,ew,J_];clear ev ew;unfold wD aT at*;generalize LK .i64 ps=l0 at*;refine⟨?_,?_,?_,?_,?_,?_,?_,?_⟩
 ·refine Ca.a_ (n:=Kq+100) ?_;rw[ah rfl (k14:E1.fn _=_) rfl];simp -implicitDefEqProofs [f14,a0,jb]
 ·refine Ca.a_ (n:=Kq+100) ?_;rw[ah rfl (k13:E1.fn _=_) rfl];simp -implicitDefEqProofs [f13,a0,jb]
 ·refine Ca.a_ (n:=Kq+100) ?_;rw[ah rfl (k24:E1.fn _=_) rfl];simp -implicitDefEqProofs [f24,a0,jb]
 ·refine Ca.a_ (n:=Kq+100) ?_;rw[ah rfl (k17:E1.fn _=_) rfl];simp -implicitDefEqProofs [f17,a0,jb]
 ·refine Ca.a_ (n:=Kq+100) ?_;rw[ah rfl (k19:E1.fn _=_) rfl];simp -implicitDefEqProofs [f19,b0,jb]
 ·refine Ca.a_ (n:=Kq+100) ?_;rw[ah rfl (k21:E1.fn _=_) rfl];simp -implicitDefEqProofs [f21,b0,jb]
 ·refine Ca.a_ (n:=Kq+100) ?_;rw[ah rfl (k25:E1.fn _=_) rfl];simp -implicitDefEqProofs [f25,b0,jb]
 ·refine Ca.a_ (n:=Kq+100) ?_;rw[ah rfl (k23:E1.fn _=_) rfl];simp -implicitDefEqProofs [f23,b0,jb]
theorem pJ:Ca E1 12 [.d noW.d,.d noW.d] (.d (.v (.bool true)),none):=by
 have hk:single 4=true:=by decide
 have h:=qA (kk:=4) (ps:=[]) (S:=1) (M:=1) (dh hk).1 (by omega) (xG hk (zB hk 1 1 (by omega)));rw[mk_one hk]at h;exact h
theorem Iw {k:Int}(hk:k=2\/k=3\/k=4)(v x1 z:W)(tx:Ca E1 53 [.d (aT k []),.d v.d] (.d x1.d,none))(h1:Ca E1 20 [.d (aT k [])] (.d z.d,none)):Ca E1 23 [.d (aT k []),.d v.d] (.d (.t [z.d,.v (.int .i64 0)]),none):=by
 have tv:=Ca.dO (Ca.a_ (bG 0 k []));rw[show aH k []=true by rcases hk with rfl|rfl|rfl<;>rfl]at tv;obtain⟨K,hK,a0,a1,a2⟩:=(tv.j (tx.j h1.any)).at 0;obtain⟨vs,vD,vE,vc,vb,vu,vp,vF,ev⟩:=v.av;obtain⟨xs,Eb,Ec,xc,xb,xu,xp,Ed,ex⟩:=x1.av;obtain⟨zs,wH,wI,zc,zb,zu,zp,wJ,ez⟩:=z.av;simp only[ev,ex,ez]at a1 a2 ⊢;clear hK ev ex ez tv tx h1;refine Ca.a_ (n:=K+300) ?_;rw[ah rfl (k23:E1.fn _=_) rfl];unfold wD aT at*;simp only[show LK .i64 []=[] from rfl]at*;rcases hk with rfl|rfl|rfl<;>simp -implicitDefEqProofs [aA,f23,a0,a1,a2,jb]
theorem QA (v:W)(l m:List aJ)(e:Int)(tx:Ca E1 53 [.d (aT 5 []),.d v.d] (.d (Sv.p l).w.d,none))(h1:Ca E1 63 [.d (au l)] (.d (.t [au m,.v (.int .i64 e)]),none)):Ca E1 23 [.d (aT 5 []),.d v.d] (.d (.t [(Sv.p m).w.d,.v (.int .i64 e)]),none):=by
 have tv:=Ca.dO (Ca.a_ (bG 0 5 []));rw[show aH 5 []=true from rfl]at tv;obtain⟨K,hK,a0,a1,a2⟩:=(tv.j (tx.j h1.any)).at 0;obtain⟨vs,vD,vE,vc,vb,vu,vp,vF,ev⟩:=v.av;rw[ev]at a1 ⊢;simp only[FB]at a1 ⊢;unfold au at*;generalize (l.map fun p=>qC p.1 p.2)=x1,(m.map fun p=>qC p.1 p.2)=x2 at*;clear hK ev tv tx h1;refine Ca.a_ (n:=K+300) ?_;rw[ah rfl (k23:E1.fn _=_) rfl];unfold wD aT at*;simp only[show LK .i64 []=[] from rfl]at*;simp -implicitDefEqProofs [aA,f23,a0,a1,a2,jb]
theorem Iy:Ca E1 38 [.d (.v (.int .i64 1)),.d (.v (.int .i64 1))] (.d (qD 1),none):=by
 have h:=Ca.dO (Om 1 1 (by omega) (by omega) (by omega));have e:x_ 1 1=1:=by decide
 rw[e]at h;exact h
theorem QB (v:W)(x:Rat)(hx:qz x<=100000)(tx:Ca E1 53 [.d (aT 1 []),.d v.d] (.d (Sv.q x).w.d,none)):Ca E1 23 [.d (aT 1 []),.d v.d] (.d (.t (if x.abs<1 then [(Sv.q (1 / (1-x))).w.d,.v (.int .i64 0)] else [(Sv.q 0).w.d,.v (.int .i64 7)])),none):=by
 have tv:=Ca.dO (Ca.a_ (bG 0 1 []));rw[show aH 1 []=true from rfl]at tv;have h1:qz 1<=1:=jg;have b1:qz x.abs<=10000000:=Nat.le_trans (uV x) (by omega);have b2:qz (1-x)<=10000000:=Nat.le_trans (oL 1 x) (by omega);obtain⟨m0,a0⟩:=tv.any;obtain⟨m1,a1⟩:=tx.any;obtain⟨m2,a2⟩:=Iy.any;obtain⟨m3,a3⟩:=(Ca.dO (CZ x (by omega))).any;obtain⟨m4,a4⟩:=(Ca.dO (l_ x.abs 1 b1 (by omega))).any;obtain⟨m5,a5⟩:=(Ca.dO (C9 1 x (by omega) (by omega))).any;obtain⟨vs,vD,vE,vc,vb,vu,vp,vF,ev⟩:=v.av;obtain⟨s1,n1,d1,e1,g1⟩:=oC x;obtain⟨s2,n2,d2,e2,g2⟩:=oC 1;obtain⟨s3,n3,d3,e3,g3⟩:=oC x.abs;obtain⟨s4,n4,d4,e4,g4⟩:=oC (1-x);rw[ev]at a1 ⊢;rw[e1]at a1
 by_cases h:x.abs<1
 ·have hne:(1-x:Rat)≠0:=by
   intro h0;have:x=1:=by grind
   subst this;exact absurd h (by decide)
  obtain⟨m6,a6⟩:=(Ca.dO (JC 1 (1-x) (by omega) b2 hne)).any;obtain⟨s5,n5,d5,e5,g5⟩:=oC (1 / (1-x));obtain⟨K,hK⟩:∃ K,K=m0+m1+m2+m3+m4+m5+m6:=⟨_,rfl⟩
  replace a0:=a0 K (by omega);replace a1:=a1 K (by omega);replace a2:=a2 K (by omega);replace a3:=a3 K (by omega);replace a4:=a4 K (by omega);replace a5:=a5 K (by omega);replace a6:=a6 K (by omega);rw[decide_eq_true h]at a4;rw[if_pos h,e5];simp only[g1,g2,g3,g4,g5]at*;clear hK ev e1 e2 e3 e4 e5 tv tx hx b1 b2 h hne g1 g2 g3 g4 g5 h1;refine Ca.a_ (n:=K+300) ?_;rw[ah rfl (k23:E1.fn _=_) rfl];unfold wD aT at*;simp only[show LK .i64 []=[] from rfl]at*;simp -implicitDefEqProofs [aA,f23,a0,a1,a2,a3,a4,a5,a6,jb]
 ·obtain⟨K,hK⟩:∃ K,K=m0+m1+m2+m3+m4+m5:=⟨_,rfl⟩
  have e0:(Sv.q 0).w.d=noW.d:=by
   have:=zB (k:=4) (by decide) 1 1 (by omega);have e:=iM;obtain⟨s,n,d,e1,g1⟩:=oC 0;rw[e1];rw[g1]at e;simp only[D.a.injEq,List.cons.injEq,D.v.injEq,Value.bool.injEq,D.s.injEq,true_and,and_true]at e;obtain⟨rfl,rfl,rfl⟩:=e;rfl
  replace a0:=a0 K (by omega);replace a1:=a1 K (by omega);replace a2:=a2 K (by omega);replace a3:=a3 K (by omega);replace a4:=a4 K (by omega);rw[decide_eq_false h]at a4;rw[if_neg h,e0,J_];simp only[g1,g2,g3,g4]at*;clear hK ev e0 e1 e2 e3 e4 a5 tv tx hx b1 b2 h g1 g2 g3 g4 h1;refine Ca.a_ (n:=K+300) ?_;rw[ah rfl (k23:E1.fn _=_) rfl];unfold wD aT at*;simp only[show LK .i64 []=[] from rfl]at*;simp -implicitDefEqProofs [aA,f23,a0,a1,a2,a3,a4,jb]
theorem Un {a b:Int}(hv:aH 6 [a,b]=true)(v x0 x1 z0 z1:W){e0 e1:Int}(he0:e0=0\/e0=7)(he1:e1=0\/e1=7)(tx:Ca E1 53 [.d (aT 6 [a,b]),.d v.d] (.d (wD false [] [] 0 false 0 [] [x0.d,x1.d]),none))(h0:Ca E1 23 [.d (aT a []),.d x0.d] (.d (.t [z0.d,.v (.int .i64 e0)]),none))(h1:Ca E1 23 [.d (aT b []),.d x1.d] (.d (.t [z1.d,.v (.int .i64 e1)]),none)):Ca E1 23 [.d (aT 6 [a,b]),.d v.d] (.d (.t (if e0=0/\e1=0 then [wD false [] [] 0 false 0 [] [z0.d,z1.d],.v (.int .i64 0)] else [noW.d,.v (.int .i64 7)])),none):=by
 have tv:=Ca.dO (Ca.a_ (bG 0 6 [a,b]));rw[hv]at tv;obtain⟨K,hK,a0,a1,b0,p0,b1,p1⟩:=(tv.j (tx.j (h0.j ((bR 6 [a,b] 0 0 rfl a rfl).j (h1.j ((bR 6 [a,b] 1 1 rfl b rfl).any)))))).at 0;obtain⟨vs,vD,vE,vc,vb,vu,vp,vF,ev⟩:=v.av;obtain⟨x0s,acP,acQ,x0c,x0b,x0u,x0p,acR,Z_⟩:=x0.av;obtain⟨x1s,acS,acT,x1c,x1b,x1u,x1p,acU,FP⟩:=x1.av;obtain⟨z0s,acV,acW,z0c,z0b,z0u,z0p,acX,ez0⟩:=z0.av;obtain⟨z1s,acY,acZ,z1c,z1b,z1u,z1p,ac0,FQ⟩:=z1.av;simp only[J_,ev,Z_,FP,ez0,FQ]at a1 b0 b1 ⊢;clear hK tv tx hv ev Z_ FP ez0 FQ h0 h1;refine Ca.a_ (n:=K+500) ?_;rw[ah rfl (k23:E1.fn _=_) rfl];unfold wD aT at*;generalize LK .i64 []=l0 at*;simp only[show LK .i64 [a,b]=[.v (.int .i64 a),.v (.int .i64 b)] from rfl]at*;rcases he0 with rfl|rfl<;>rcases he1 with rfl|rfl <;>
  simp (maxSteps:=500000) -implicitDefEqProofs [aA,f23,a0,a1,b0,p0,b1,p1,most,Qj,wr2,wr3,ae.view,jb]
theorem Uo {a b c:Int}(hv:aH 6 [a,b,c]=true)(v x0 x1 x2 z0 z1 z2:W){e0 e1 e2:Int}(he0:e0=0\/e0=7)(he1:e1=0\/e1=7)(he2:e2=0\/e2=7)(tx:Ca E1 53 [.d (aT 6 [a,b,c]),.d v.d] (.d (wD false [] [] 0 false 0 [] [x0.d,x1.d,x2.d]),none))(h0:Ca E1 23 [.d (aT a []),.d x0.d] (.d (.t [z0.d,.v (.int .i64 e0)]),none))(h1:Ca E1 23 [.d (aT b []),.d x1.d] (.d (.t [z1.d,.v (.int .i64 e1)]),none))(h2:Ca E1 23 [.d (aT c []),.d x2.d] (.d (.t [z2.d,.v (.int .i64 e2)]),none)):Ca E1 23 [.d (aT 6 [a,b,c]),.d v.d] (.d (.t (if e0=0/\e1=0/\e2=0 then [wD false [] [] 0 false 0 [] [z0.d,z1.d,z2.d],.v (.int .i64 0)] else [noW.d,.v (.int .i64 7)])),none):=by
 have tv:=Ca.dO (Ca.a_ (bG 0 6 [a,b,c]));rw[hv]at tv;obtain⟨K,hK,a0,a1,b0,p0,b1,p1,b2,p2⟩:=(tv.j (tx.j (h0.j ((bR 6 [a,b,c] 0 0 rfl a rfl).j (h1.j ((bR 6 [a,b,c] 1 1 rfl b rfl).j (h2.j ((bR 6 [a,b,c] 2 2 rfl c rfl).any)))))))).at 0;obtain⟨vs,vD,vE,vc,vb,vu,vp,vF,ev⟩:=v.av;obtain⟨x0s,acP,acQ,x0c,x0b,x0u,x0p,acR,Z_⟩:=x0.av;obtain⟨x1s,acS,acT,x1c,x1b,x1u,x1p,acU,FP⟩:=x1.av;obtain⟨x2s,afY,afZ,x2c,x2b,x2u,x2p,af0,J4⟩:=x2.av;obtain⟨z0s,acV,acW,z0c,z0b,z0u,z0p,acX,ez0⟩:=z0.av;obtain⟨z1s,acY,acZ,z1c,z1b,z1u,z1p,ac0,FQ⟩:=z1.av;obtain⟨z2s,af1,af2,z2c,z2b,z2u,z2p,af3,J5⟩:=z2.av;simp only[J_,ev,Z_,FP,J4,ez0,FQ,J5]at a1 b0 b1 b2 ⊢;clear hK tv tx hv ev Z_ FP J4 ez0 FQ J5 h0 h1 h2;refine Ca.a_ (n:=K+500) ?_;rw[ah rfl (k23:E1.fn _=_) rfl];unfold wD aT at*;generalize LK .i64 []=l0 at*;simp only[show LK .i64 [a,b,c]=[.v (.int .i64 a),.v (.int .i64 b),.v (.int .i64 c)] from rfl]at*;rcases he0 with rfl|rfl<;>rcases he1 with rfl|rfl<;>rcases he2 with rfl|rfl <;>
  simp (maxSteps:=500000) -implicitDefEqProofs [aA,f23,a0,a1,b0,p0,b1,p1,b2,p2,most,Qj,wr2,wr3,ae.view,jb]
def zL (l:List aJ):Rat:=match l.getLast? with
 | some (e,x)=>if e=(0,0,0) then x else 0
 | none=>0
theorem zM {S:Nat}{l:List aJ}(h:PV S l)(hS:S<=100000)(hl:l.length<=100000000):Ca E1 96 [.d (au l)] (.d (qD (zL l)),none):=by
 obtain⟨_,t0,rfl⟩:=lH h hS;obtain⟨K,t⟩:=t0.get;clear t0;rcases List.eq_nil_or_concat l with rfl|⟨m,p,rfl⟩
 ·refine Ca.a_ (n:=K+200) ?_;rw[ah rfl (k96:E1.fn _=_) rfl];rw[show zL []=0 from rfl,iM];rw[show au []=.s 6 [] from rfl]at*;simp -implicitDefEqProofs [f96,t]
 ·obtain⟨⟨a,b,c⟩,x⟩:=p;have e1:au (m.concat ((a,b,c),x))=.s 6 ((m.map fun p=>qC p.1 p.2)++[qC (a,b,c) x]):=by
   unfold au;simp
  have e2:zL (m.concat ((a,b,c),x))=if ((a,b,c):d_)=(0,0,0) then x else 0:=by
   unfold zL;simp
  have hn:m.length<=99999999:=by simp at hl;omega
  rw[e1]at t ⊢;rw[e2];have hlen:((m.map fun p=>qC p.1 p.2)++[qC (a,b,c) x]).length=m.length+1:=by simp
  have hx:((m.map fun p=>qC p.1 p.2)++[qC (a,b,c) x])[m.length]?=some (qC (a,b,c) x):=by simp
  generalize (m.map fun p=>qC p.1 p.2)++[qC (a,b,c) x]=es at*;have w1:af .i64 ((m.length:Int)+1-1)=m.length:=by
   rw[show(m.length:Int)+1-1=m.length by omega];exact wrap_i64 (by omega)
  have w2:((m.length:Int)+1-1)=m.length:=by omega
  have w3:af .i64 (m.length:Int)=m.length:=wrap_i64 (by omega);have hp:(0:Int)<(m.length:Int)+1:=by omega
  have hk0:(0:Int)<=(m.length:Int):=by omega
  have hkc:(m.length:Int)<(m.length:Int)+1:=by omega
  have hil:m.length<es.length:=by omega
  have i1:=idx hx;generalize m.length=n at*;clear e1 e2 h hl;simp only[qC,wX,qD,raw,LD,iG]at*
  by_cases hz:((a,b,c):d_)=(0,0,0)
  ·rw[if_pos hz];simp only[Prod.mk.injEq]at hz;obtain⟨rfl,rfl,rfl⟩:=hz;have q0:bQ [.v (.int .i64 0),.v (.int .i64 0),.v (.int .i64 0)] [.v (.int .i64 0),.v (.int .i64 0),.v (.int .i64 0)]=some true:=by simp[bQ]
   refine Ca.a_ (n:=K+200) ?_;rw[ah rfl (k96:E1.fn _=_) rfl];simp -implicitDefEqProofs [f96,t,hlen,hp,hk0,hkc,hil,hx,i1,w1,w2,w3,q0]
  ·rw[if_neg hz];have hq:=iM;simp only[qD,raw,LD]at hq;rw[hq];have hb:(a==0&&(b==0&&c==0))=false:=by
    simp only[Prod.mk.injEq]at hz;simp only[Bool.eq_false_iff,ne_eq,Bool.and_eq_true,beq_iff_eq];exact hz
   simp only[Prod.mk.injEq]at hz;have q0:bQ [.v (.int .i64 a),.v (.int .i64 b),.v (.int .i64 c)] [.v (.int .i64 0),.v (.int .i64 0),.v (.int .i64 0)]=some false:=by simp[bQ];exact fun h1 h2 h3=>hz ⟨h1,h2,h3⟩
   refine Ca.a_ (n:=K+200) ?_;rw[ah rfl (k96:E1.fn _=_) rfl];simp -implicitDefEqProofs [f96,t,hlen,hp,hk0,hkc,hil,hx,i1,w1,w2,w3,q0]
theorem zN {k:Int}(h:iH k=true):0<=k:=by
 unfold iH at h;simp at h;omega
theorem FY {S:Nat}{l:List aJ}(h:PV S l):zL l=bV l:=by
 have hs:=h.zi;have hf:=h.fits;rcases List.eq_nil_or_concat l with rfl|⟨m,p,rfl⟩
 ·rfl
 ·obtain⟨e,x⟩:=p;have e2:zL (m.concat (e,x))=if e=(0,0,0) then x else 0:=by
   unfold zL;simp
  rw[e2];unfold bV;rw[List.concat_eq_append]at*;rw[gI];have hm:tot m (0,0,0)=0:=by
   refine gL fun p hp he => ?_
   have h1:iZ p.1 e=true:=(List.pairwise_append.1 hs).2.2 p hp (e,x) (by simp);have h2:=hf (e,x) (by simp);unfold aX at h2;simp only[Bool.and_eq_true]at h2;have n1:=zN h2.1.1.1;have n2:=zN h2.1.1.2;have n3:=zN h2.1.2;rw[jy,he]at h1;simp only at h1;omega
  rw[hm,Rat.zero_add];simp only[tot,Rat.add_zero]
theorem Iz {S:Nat}{l:List aJ}(h:PV S l)(hS:S<=100000)(hl:l.length<=100000000)(hq:qz (bV l)<=100000)(hc:¬ (bV l).abs<1):Ca E1 63 [.d (au l)] (.d (.t [au [],.v (.int .i64 7)]),none):=by
 have h1:qz 1<=1:=jg;have t0:=zM h hS hl;rw[FY h]at t0;generalize bV l=x at*;have b1:qz x.abs<=10000000:=Nat.le_trans (uV x) (by omega);obtain⟨K,hK,a1,a2,a3,a4⟩:=(t0.j (Iy.j ((Ca.dO (CZ x (by omega))).j ((Ca.dO (l_ x.abs 1 b1 (by omega))).any)))).at 0;obtain⟨s1,n1,d1,e1,g1⟩:=oC x;obtain⟨s2,n2,d2,e2,g2⟩:=oC 1;obtain⟨s3,n3,d3,e3,g3⟩:=oC x.abs;rw[decide_eq_false hc]at a4;simp only[g1,g2,g3]at*;rw[show au []=.s 6 [] from rfl];unfold au at*;generalize (l.map fun p=>qC p.1 p.2)=es at*;clear hK e1 e2 e3 t0 hc b1 g1 g2 g3 h1 h hl hq;refine Ca.a_ (n:=K+300) ?_;rw[ah rfl (k63:E1.fn _=_) rfl];simp -implicitDefEqProofs [aA,f63,a1,a2,a3,a4,jb]
theorem L8 {S:Nat}{l:List aJ}(h:PV S l)(hS:S<=100000)(hq:qz (bV l)<=100000)(hc:¬ (bV l).abs<1):Ca E1 159 [.d (au l)] (.d (.t [au [],.v (.int .i64 7)]),none):=by
 have h1:qz 1<=1:=jg;have t0:=BM h hS;have hcmp:decide ((0:Int)<=((bV l).abs-1).num.sign)=true:=decide_eq_true (xH.2 hc);have hi:=Ca.dO (yo 1 (by omega));rw[show((1:Int):Rat)=1 from rfl]at hi;generalize bV l=x at*;have b1:qz x.abs<=9000000:=Nat.le_trans (uV x) (by omega);obtain⟨K,hK,a1,a2,a3,a4⟩:=(t0.j (hi.j ((Ca.dO (CK x (by omega))).j ((Ca.dO (jD x.abs 1 (by omega) (by omega))).any)))).at 0;obtain⟨s1,n1,d1,e1,g1⟩:=oC x;obtain⟨s2,n2,d2,e2,g2⟩:=oC 1;obtain⟨s3,n3,d3,e3,g3⟩:=oC x.abs;generalize (x.abs-1).num.sign=z at*;have hz:(0:Int)<=z:=of_decide_eq_true hcmp;simp only[g1,g2,g3]at*;rw[show au []=.s 6 [] from rfl];unfold au at*;generalize (l.map fun p=>qC p.1 p.2)=es at*;clear hK e1 e2 e3 t0 hi hc b1 g1 g2 g3 h1 h hq;refine Ca.a_ (n:=K+300) ?_;rw[ah rfl (k159:E1.fn _=_) rfl];simp -implicitDefEqProofs [aA,f159,a1,a2,a3,a4,hcmp,hz,jb]
theorem IA (x t:Rat)(hq:qz x<=100000)(hc:x.abs<1)(l r k0 n w0 w1 w2 w3 w4 w5 w6 o1 o2 o3 o4 o5 o6:List D)(ht:t=1 / (1-x))(hl:Ca E1 96 [.d (.s 6 l)] (.d (qD x),none))
  (hk:Ca E1 48 [.d (qD (-x))] (.d (.s 6 k0),none)) (hr:Ca E1 49 [.d (.s 6 l),.d (.s 6 k0)] (.d (.s 6 r),none)) (hn:Ca E1 50 [.d (.s 6 r),.d (qD t)] (.d (.s 6 n),none)) (hw:Ca E1 48 [.d (qD t)] (.d (.s 6 w0),none))
  (ha0:Ca E1 49 [.d (.s 6 []),.d (.s 6 w0)] (.d (.s 6 o1),none)) (ha1:Ca E1 49 [.d (.s 6 o1),.d (.s 6 w1)] (.d (.s 6 o2),none)) (ha2:Ca E1 49 [.d (.s 6 o2),.d (.s 6 w2)] (.d (.s 6 o3),none)) (ha3:Ca E1 49 [.d (.s 6 o3),.d (.s 6 w3)] (.d (.s 6 o4),none)) (ha4:Ca E1 49 [.d (.s 6 o4),.d (.s 6 w4)] (.d (.s 6 o5),none)) (ha5:Ca E1 49 [.d (.s 6 o5),.d (.s 6 w5)] (.d (.s 6 o6),none)) (hm0:Ca E1 58 [.d (.s 6 w0),.d (.s 6 n)] (.d (.s 6 w1),none)) (hm1:Ca E1 58 [.d (.s 6 w1),.d (.s 6 n)] (.d (.s 6 w2),none)) (hm2:Ca E1 58 [.d (.s 6 w2),.d (.s 6 n)] (.d (.s 6 w3),none)) (YZ:Ca E1 58 [.d (.s 6 w3),.d (.s 6 n)] (.d (.s 6 w4),none)) (R9:Ca E1 58 [.d (.s 6 w4),.d (.s 6 n)] (.d (.s 6 w5),none)) (hm5:Ca E1 58 [.d (.s 6 w5),.d (.s 6 n)] (.d (.s 6 w6),none)):Ca E1 63 [.d (.s 6 l)] (.d (.t [.s 6 o6,.v (.int .i64 0)]),none):=by
 have h1:qz 1<=1:=jg;have b1:qz x.abs<=10000000:=Nat.le_trans (uV x) (by omega);have b2:qz (1-x)<=10000000:=Nat.le_trans (oL 1 x) (by omega);have hne:(1-x:Rat)≠0:=by
  intro h0;have:x=1:=by grind
  subst this;exact absurd hc (by decide)
 have q4:=Ca.dO (JC 1 (1-x) (by omega) b2 hne);rw[<-ht]at q4;obtain⟨K,hK,a1,a2,a3,a4,a5,a6,a7,a8,a9,b1',b2',c0,c1,c2,c3,c4,c5,mu0,mu1,mu2,mu3,mu4,mu5⟩:=(hl.j (Iy.j ((Ca.dO (CZ x (by omega))).j ((Ca.dO (l_ x.abs 1 b1 (by omega))).j ((Ca.dO (C9 1 x (by omega) (by omega))).j (q4.j ((Ca.dO (JB x (by omega))).j (hk.j (hr.j (hn.j (hw.j (ha0.j (ha1.j (ha2.j (ha3.j (ha4.j (ha5.j (hm0.j (hm1.j (hm2.j (YZ.j (R9.j hm5.any)))))))))))))))))))))).at 0;obtain⟨s1,n1,d1,e1,g1⟩:=oC x;obtain⟨s2,n2,d2,e2,g2⟩:=oC 1;obtain⟨s3,n3,d3,e3,g3⟩:=oC x.abs;obtain⟨s4,n4,d4,e4,g4⟩:=oC (1-x);obtain⟨s5,n5,d5,e5,g5⟩:=oC t;obtain⟨s6,n6,d6,e6,g6⟩:=oC (-x);rw[decide_eq_true hc]at a4;simp only[g1,g2,g3,g4,g5,g6]at*;clear hK e1 e2 e3 e4 e5 e6 hc hne b1 b2 g1 g2 g3 g4 g5 g6 h1 hq q4 ht hl hk hr hn hw ha0 hm0 ha1 hm1 ha2 hm2 ha3 YZ ha4 R9 ha5 hm5;refine Ca.a_ (n:=K+500) ?_;rw[ah rfl (k63:E1.fn _=_) rfl];simp (maxSteps:=500000) -implicitDefEqProofs [aA,f63,a1,a2,a3,a4,a5,a6,a7,a8,a9,b1',b2',c0,c1,c2,c3,c4,c5,mu0,mu1,mu2,mu3,mu4,mu5,Qj,wr2,wr3,jb,show af .i64 4=4 from wrap_i64 (by omega),show af .i64 5=5 from wrap_i64 (by omega),show af .i64 6=6 from wrap_i64 (by omega)]
end Fi.S
namespace Fi.S
open Go Fi
set_option maxHeartbeats 1000000
theorem DC {p:List aJ}(hp:PV 3 p)(hl:p.length<=8)(hc:(bV p).abs<1):Ca E1 63 [.d (au p)] (.d (.t [au (nY p),.v (.int .i64 0)]),none):=by
 obtain⟨h,hr,hrl,ht,hsl⟩:=rW hp hl;have hq:qz (bV p)<=3:=nE (by omega) (dG hp.zi) hp.bd _;have hqn:=CU (bV p);have tl:=zM hp (by omega) (by omega);rw[FY hp]at tl;have tk:=vB (-bV p) (by omega);have tr:=ui (S:=3) (by omega) (by omega) hp (jk (x:=-bV p) (by omega));have tn:=Ls (S:=7) (by omega) (by omega) hr (aW p) (by omega) (by omega);have tw:=vB (aW p) (by omega);have ta:=fun k (hk:k<6)=>ui (S:=200) (by omega) (by omega) (h.so k (by omega)) (h.pw (k+1) (by omega))
 have tm:=fun k (hk:k<6)=>zy (S:=200) (by omega) (by omega) (h.pw k (by omega)) h.step (by
  have h1:=(h.pw k (by omega)).length;have h2:=Nat.mul_le_mul h1 hsl;exact Nat.le_trans (Nat.mul_le_mul_right _ (show _<=216*9+9 by omega)) (by omega))
 have ta0:=ui (S:=200) (by omega) (by omega) (PV.nil _) (h.pw 0 (by omega));have e0:fF [] (zJ (aW p) (bu p (aW p)) 0)=Dv (aW p) (bu p (aW p)) 0:=by
  rw[LP (S:=200) (by omega) (PV.nil _) (h.pw 0 (by omega)),zF (by omega) (h.pw 0 (by omega))];rfl
 have e6:nY p=Dv (aW p) (bu p (aW p)) 5:=by
  show fF (Dv (aW p) (bu p (aW p)) 5) (zJ (aW p) (bu p (aW p)) 6)=_;rw[Qp hp.pv];exact zF (by omega) (h.so 5 (by omega))
 rw[e0]at ta0;rw[e6];exact IA (bV p) (aW p) (by omega) hc _ _ _ _ _ _ _ _ _ _ _ _ _ _ _ _ _ rfl tl tk tr tn tw ta0 (ta 0 (by omega)) (ta 1 (by omega)) (ta 2 (by omega)) (ta 3 (by omega)) (ta 4 (by omega)) (tm 0 (by omega)) (tm 1 (by omega)) (tm 2 (by omega)) (tm 3 (by omega)) (tm 4 (by omega)) (tm 5 (by omega))
end Fi.S
