import Derived.Test.YtckkhcnfdmlabaaGreatDoorCS2
import Derived.Test.YtckkhcnfdmlabaaGreatDoorCU0
set_option linter.unusedVariables false
set_option linter.unusedSimpArgs false
namespace Fi.S
open Go Fi
set_option maxHeartbeats 8000000
set_option maxRecDepth 10000
theorem Jk {k:Int}(hk:single k=true){S M N:Nat}(hS1:1<=S)(hS:S<=1000)(hm:(M*N+N)*(2*S+1)<=40000){x y:Sv}(hx:x.of k S M)(hy:y.of k S N){vw ww:W}(tx:Ca E1 53 [.d (bz k []),.d vw.d] (.d x.w.d,none))(ty:Ca E1 53 [.d (bz k []),.d ww.d] (.d y.w.d,none)) :
  Ca E1 21 [.d (bz k []),.d vw.d,.d ww.d] (.d (df x y).w.d,none):=by
 have tv:=Ca.fG (Ca.bO (fF 0 k []));rw[(dS hk).1]at tv;obtain⟨vs,Zd,Ze,vc,vb,vu,vp,Zf,ev⟩:=vw.aM;obtain⟨ws,wl1,wl2,wc,wb,wu,wp,wps,ew⟩:=ww.aM;rw[ev]at tx ⊢;rw[ew]at ty ⊢;clear ev ew;rcases aL hk with rfl|rfl|rfl|rfl|rfl
 ·obtain⟨a,rfl,ha⟩:=vW hx;obtain⟨b,rfl,hb⟩:=vW hy;obtain⟨K,hK,a0,a1,a2,a3⟩:=((tv).j ((tx).j ((ty).j ((Ca.fG (FH a b (by omega) (by omega))).any)))).at 0;obtain⟨s1,n1,d1,e1,g1⟩:=QS a;obtain⟨s2,n2,d2,e2,g2⟩:=QS b;rw[VU];obtain⟨s3,n3,d3,e3,g3⟩:=QS (a*b);rw[g1,g2,g3]at a3;rw[e1]at a1;rw[e2]at a2;rw[e3];clear hK tv tx ty;refine Ca.bO (n:=K+300) ?_;rw[ak rfl (k21:E1.fn _=_) rfl]
  (try unfold wD at*)
  unfold bz at*;generalize LK .i64 []=l0 at*;simp -implicitDefEqProofs[aC,f21,a0,a1,a2,a3]
 ·obtain⟨i,n,rfl,hn0,hn1,hin⟩:=vX hx;obtain⟨j,m,rfl,hm0,hm1,hjm⟩:=vX hy;obtain⟨K,hK,a0,a1,a2⟩:=((tv).j ((tx).j ((ty).any))).at 0;rw[Uc];have w1:ah .i64 (n+m)=n+m:=wrap_i64 (by omega);have hc1:∀ i n,(Sv.c i n).w.d=wD false [] [] n i 0 [] []:=fun i n=>rfl
  rw[hc1]at a1;rw[hc1]at a2;cases i<;>cases j<;>by_cases h:1099511627776<n+m<;>simp only[h,Bool.true_or,Bool.false_or,Bool.or_true,decide_true,decide_false,if_true,if_false,Bool.false_eq_true,Bool.or_false,hc1] <;>
  (clear hK tv tx ty;refine Ca.bO (n:=K+300) ?_;rw[ak rfl (k21:E1.fn _=_) rfl];unfold wD bz at*;generalize LK .i64 []=l0 at*;simp -implicitDefEqProofs[f21,a0,a1,a2,h,w1])
 ·obtain⟨a,rfl,_,_,ha⟩:=vY hx;obtain⟨b,rfl,_,_,hb⟩:=vY hy;obtain⟨K,hK,a0,a1,a2,a3⟩:=((tv).j ((tx).j ((ty).j ((Ca.fG (FH a b (by omega) (by omega))).any)))).at 0;obtain⟨s1,n1,d1,e1,g1⟩:=QS a;obtain⟨s2,n2,d2,e2,g2⟩:=QS b;rw[VU];obtain⟨s3,n3,d3,e3,g3⟩:=QS (a*b);rw[g1,g2,g3]at a3;rw[e1]at a1;rw[e2]at a2;rw[e3];clear hK tv tx ty;refine Ca.bO (n:=K+300) ?_;rw[ak rfl (k21:E1.fn _=_) rfl]
  (try unfold wD at*)
  unfold bz at*;generalize LK .i64 []=l0 at*;simp -implicitDefEqProofs[aC,f21,a0,a1,a2,a3]
 ·obtain⟨u,rfl,hu⟩:=vZ hx;obtain⟨v,rfl,hv⟩:=vZ hy;obtain⟨K,hK,a0,a1,a2⟩:=((tv).j ((tx).j ((ty).any))).at 0;rw[ti4];have hc1:∀ u,(Sv.s u).w.d=wD false [] [] 0 false u [] []:=fun u=>rfl
  rw[hc1]at a1;rw[hc1]at a2;rw[hc1];clear hK tv tx ty;refine Ca.bO (n:=K+300) ?_;rw[ak rfl (k21:E1.fn _=_) rfl]
  (try unfold wD at*)
  unfold bz at*;generalize LK .i64 []=l0 at*;simp -implicitDefEqProofs[aC,f21,a0,a1,a2]
 ·obtain⟨a,rfl,ha,la⟩:=v_ hx;obtain⟨b,rfl,hb,lb⟩:=v_ hy;obtain⟨K,hK,a0,a1,a2,a3⟩:=((tv).j ((tx).j ((ty).j ((IA hS1 hS ha hb (Nat.le_trans (Nat.mul_le_mul_right _ (Nat.add_le_add (Nat.mul_le_mul la lb) lb)) hm)).any)))).at 0;rw[ti5];simp only[TA]at a1 a2 ⊢;generalize iA a b=c at*;unfold aR at*;generalize (a.map fun p=>qC p.1 p.2)=x1,(b.map fun p=>qC p.1 p.2)=x2,(c.map fun p=>qC p.1 p.2)=x3 at*;clear hK tv tx ty;refine Ca.bO (n:=K+300) ?_;rw[ak rfl (k21:E1.fn _=_) rfl]
  (try unfold wD at*)
  unfold bz at*;generalize LK .i64 []=l0 at*;simp -implicitDefEqProofs[aC,f21,a0,a1,a2,a3]
theorem ry {k:Int}(hk:single k=true){S M N:Nat}(hS1:1<=S)(hS:S<=1000)(hm:(M*N+N)*(2*S+1)<=40000){x y:Sv}(hx:x.of k S M)(hy:y.of k S N) :
  Ca E1 21 [.d (bz k []),.d x.w.d,.d y.w.d] (.d (df x y).w.d,none):=Jk hk hS1 hS hm hx hy (nH hk hS1 hS hx) (nH hk hS1 hS hy)
theorem PT {kk:Int}{ps:List Int}{S M N:Nat}{xs ys:List Sv}(hv:aI kk ps=true)(hS1:1<=S)(hS:S<=1000)(hm:(M*N+N)*(2*S+1)<=40000)(hx:gH S M (dx kk ps) xs)(hy:gH S N (dx kk ps) ys){vw ww:W}(tx:Ca E1 53 [.d (bz kk ps),.d vw.d] (.d (bR kk xs).d,none))(ty:Ca E1 53 [.d (bz kk ps),.d ww.d] (.d (bR kk ys).d,none)) :
  Ca E1 21 [.d (bz kk ps),.d vw.d,.d ww.d] (.d (bR kk (bq xs ys)).d,none):=by
 have tv:=Ca.fG (Ca.bO (fF 0 kk ps));rw[hv]at tv;rcases nT hv hx with ⟨hk,rfl,x,rfl,h1⟩|⟨rfl,a,b,x1,x2,rfl,rfl,ha,hb,h1,h2⟩|⟨rfl,a,b,c,x1,x2,x3,rfl,rfl,ha,hb,hc,h1,h2,h3⟩
 ·have h6:=(dS hk).2;rcases nT hv hy with ⟨_,_,y,rfl,g1⟩|⟨h,_⟩|⟨h,_⟩
  ·rw[mk_one hk]at tx ty;show Ca E1 21 _ (.d (bR kk [df x y]).d,none);rw[mk_one hk];exact Jk hk hS1 hS hm h1 g1 tx ty
  ·exact absurd h h6
  ·exact absurd h h6
 ·obtain⟨y1,y2,rfl,g1,g2⟩:∃ y1 y2,ys=[y1,y2]/\y1.of a S N/\y2.of b S N:=by
   have hl:=hy.1
   match ys,hl with
   | [y1,y2],_=>exact⟨y1,y2,rfl,hy.2 0 _ _ rfl rfl,hy.2 1 _ _ rfl rfl⟩
  obtain⟨K,hK,a0,a1,a2,b0,b1,p0,p1⟩:=((tv).j ((tx).j ((ty).j ((ry ha hS1 hS hm h1 g1).j ((ry hb hS1 hS hm h2 g2).j ((dJ 6 [a,b] 0 0 rfl a rfl).j ((dJ 6 [a,b] 1 1 rfl b rfl).any))))))).at 0;have e0:∀ l,bR 6 l=fH (l.map Sv.w):=fun _=>rfl
  have e1:bq [x1,x2] [y1,y2]=[df x1 y1,df x2 y2]:=rfl;rw[e1,e0,jZ];rw[e0,jZ]at a1 a2;obtain⟨vs,Zd,Ze,vc,vb,vu,vp,Zf,ev⟩:=vw.aM;obtain⟨ws,wl1,wl2,wc,wb,wu,wp,wps,ew⟩:=ww.aM;rw[ev]at a1 ⊢;rw[ew]at a2 ⊢;clear tx ty ev ew;simp only[List.map_cons,List.map_nil]at*;generalize df x1 y1=z1,df x2 y2=z2 at*;obtain⟨xs1,xm1,xn1,xc1,xb1,xu1,xp1,xq1,Uh⟩:=x1.w.aM;obtain⟨xs2,xm2,xn2,xc2,xb2,xu2,xp2,xq2,IZ⟩:=x2.w.aM;obtain⟨ys1,ym1,yn1,yc1,yb1,yu1,yp1,yq1,Ui⟩:=y1.w.aM;obtain⟨ys2,ym2,yn2,yc2,yb2,yu2,yp2,yq2,Uj⟩:=y2.w.aM;obtain⟨TJ,zm1,zn1,zc1,zb1,zu1,zp1,zq1,Uk⟩:=z1.w.aM;obtain⟨zs2,zm2,zn2,zc2,zb2,zu2,zp2,zq2,Nr⟩:=z2.w.aM;simp only[Uh,IZ,Ui,Uj,Uk,Nr]at*;clear hK tv e0 e1 hx hy hv h1 g1 h2 g2 Uh IZ Ui Uj Uk Nr;refine Ca.bO (n:=K+500) ?_;rw[ak rfl (k21:E1.fn _=_) rfl];unfold wD bz at*;generalize LK .i64 []=l0 at*;simp only[show LK .i64 [a,b]=[.v (.int .i64 a),.v (.int .i64 b)] from rfl]at*;simp (maxSteps:=500000) -implicitDefEqProofs[aC,f21,a0,a1,a2,b0,b1,p0,p1,most,Np,wr2,wr3,ae.view]
 ·obtain⟨y1,y2,y3,rfl,g1,g2,g3⟩:∃ y1 y2 y3,ys=[y1,y2,y3]/\y1.of a S N/\y2.of b S N/\y3.of c S N:=by
   have hl:=hy.1
   match ys,hl with
   | [y1,y2,y3],_=>exact⟨y1,y2,y3,rfl,hy.2 0 _ _ rfl rfl,hy.2 1 _ _ rfl rfl,hy.2 2 _ _ rfl rfl⟩
  obtain⟨K,hK,a0,a1,a2,b0,b1,b2,p0,p1,p2⟩:=((tv).j ((tx).j ((ty).j ((ry ha hS1 hS hm h1 g1).j ((ry hb hS1 hS hm h2 g2).j ((ry hc hS1 hS hm h3 g3).j ((dJ 6 [a,b,c] 0 0 rfl a rfl).j ((dJ 6 [a,b,c] 1 1 rfl b rfl).j ((dJ 6 [a,b,c] 2 2 rfl c rfl).any))))))))).at 0;have e0:∀ l,bR 6 l=fH (l.map Sv.w):=fun _=>rfl
  have e1:bq [x1,x2,x3] [y1,y2,y3]=[df x1 y1,df x2 y2,df x3 y3]:=rfl;rw[e1,e0,jZ];rw[e0,jZ]at a1 a2;obtain⟨vs,Zd,Ze,vc,vb,vu,vp,Zf,ev⟩:=vw.aM;obtain⟨ws,wl1,wl2,wc,wb,wu,wp,wps,ew⟩:=ww.aM;rw[ev]at a1 ⊢;rw[ew]at a2 ⊢;clear tx ty ev ew;simp only[List.map_cons,List.map_nil]at*;generalize df x1 y1=z1,df x2 y2=z2,df x3 y3=z3 at*;obtain⟨xs1,xm1,xn1,xc1,xb1,xu1,xp1,xq1,Uh⟩:=x1.w.aM;obtain⟨xs2,xm2,xn2,xc2,xb2,xu2,xp2,xq2,IZ⟩:=x2.w.aM;obtain⟨xs3,xm3,xn3,xc3,xb3,xu3,xp3,xq3,Zi⟩:=x3.w.aM;obtain⟨ys1,ym1,yn1,yc1,yb1,yu1,yp1,yq1,Ui⟩:=y1.w.aM;obtain⟨ys2,ym2,yn2,yc2,yb2,yu2,yp2,yq2,Uj⟩:=y2.w.aM;obtain⟨ys3,ym3,yn3,yc3,yb3,yu3,yp3,yq3,ey3⟩:=y3.w.aM;obtain⟨TJ,zm1,zn1,zc1,zb1,zu1,zp1,zq1,Uk⟩:=z1.w.aM;obtain⟨zs2,zm2,zn2,zc2,zb2,zu2,zp2,zq2,Nr⟩:=z2.w.aM;obtain⟨zs3,zm3,zn3,zc3,zb3,zu3,zp3,zq3,ez3⟩:=z3.w.aM;simp only[Uh,IZ,Zi,Ui,Uj,ey3,Uk,Nr,ez3]at*;clear hK tv e0 e1 hx hy hv h1 g1 h2 g2 h3 g3 Uh IZ Zi Ui Uj ey3 Uk Nr ez3;refine Ca.bO (n:=K+500) ?_;rw[ak rfl (k21:E1.fn _=_) rfl];unfold wD bz at*;generalize LK .i64 []=l0 at*;simp only[show LK .i64 [a,b,c]=[.v (.int .i64 a),.v (.int .i64 b),.v (.int .i64 c)] from rfl]at*;simp (maxSteps:=500000) -implicitDefEqProofs[aC,f21,a0,a1,a2,b0,b1,b2,p0,p1,p2,most,Np,wr2,wr3,ae.view]
theorem PU {kk:Int}{ps:List Int}{S M N:Nat}{xs ys:List Sv}(hv:aI kk ps=true)(hS1:1<=S)(hS:S<=1000)(hm:(M*N+N)*(2*S+1)<=40000)(hx:gH S M (dx kk ps) xs)(hy:gH S N (dx kk ps) ys) :
  Ca E1 21 [.d (bz kk ps),.d (bR kk xs).d,.d (bR kk ys).d] (.d (bR kk (bq xs ys)).d,none):=PT hv hS1 hS hm hx hy (wh hv hS1 hS hx) (wh hv hS1 hS hy)
end Fi.S
noncomputable section
namespace Fi.S
open Go Fi
set_option maxHeartbeats 8000000
set_option maxRecDepth 10000
theorem UL (kk:Int)(ps:List Int)(sy st:Int)(aZ fin aB:List D)(s:Nat)(w:W)(hs:fin[s]?=some w.d) :
  Ca E1 1060 [.d (u7 kk ps sy st aZ fin aB),.d (.v (.int .i64 s)),.d (.s 1 (LK .i64 []))] (.d w.d,none):=by
 refine Ca.bO (n:=200) ?_;rw[ak rfl (k1060:E1.fn _=_) rfl];obtain⟨ws,l1,l2,c,b,u,p,q,ew⟩:=w.aM;rw[ew]at hs ⊢;have hl:s<fin.length:=(bH hs)
 have i0:=idx hs;unfold u7 wD at*;rw[show LK .i64 []=[] from rfl];generalize LK .i64 ps=l9 at*;simp -implicitDefEqProofs[f1060,i0,hl]
variable {α:Type} {e:α->W}
end Fi.S
noncomputable section
namespace Fi.S
open Go Fi
set_option maxHeartbeats 8000000
set_option maxRecDepth 10000
end Fi.S
noncomputable section
namespace Fi.S
open Go Fi
set_option maxHeartbeats 8000000
set_option maxRecDepth 10000
theorem Mo.NC {m n:Mo}(h:m.eq n=true):m=n:=by
 unfold Mo.eq at h;simp only[Bool.and_eq_true,decide_eq_true_eq,beq_iff_eq]at h;cases m;cases n
 simp_all
theorem UM:∀ {l m:List Mo},iL Mo.eq l m=true->l=m
 | [],[],_=>rfl
 | x::l,y::m,h=>by
  simp only[iL,Bool.and_eq_true]at h;rw[Mo.NC h.1,UM h.2]
 | [],_::_,h=>by simp[iL]at h
 | _::_,[],h=>by simp[iL]at h
mutual
theorem W.NC:∀ {v w:W},v.eq w=true->v=w
 | .mk ..,.mk ..,h=>by
  simp only[W.eq,Bool.and_eq_true,decide_eq_true_eq,beq_iff_eq]at h;obtain⟨⟨⟨⟨⟨⟨⟨rfl,rfl⟩,rfl⟩,rfl⟩,rfl⟩,rfl⟩,h1⟩,h2⟩:=h;rw[UM h1,W.UN h2]
theorem W.UN:∀ {l m:List W},W.eqs l m=true->l=m
 | [],[],_=>rfl
 | x::l,y::m,h=>by
  simp only[W.eqs,Bool.and_eq_true]at h;rw[W.NC h.1,W.UN h.2]
 | [],_::_,h=>by simp[W.eqs]at h
 | _::_,[],h=>by simp[W.eqs]at h
end
section vals
variable {kk:Int} {ps:List Int} (hv:aI kk ps=true) {x:List Sv} (hx:gH 9 2 (dx kk ps) x)
end vals
end Fi.S
