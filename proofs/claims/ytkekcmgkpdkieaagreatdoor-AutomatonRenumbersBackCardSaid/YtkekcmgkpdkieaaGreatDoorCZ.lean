import Derived.Test.YtkekcmgkpdkieaaGreatDoorCS2
import Derived.Test.YtkekcmgkpdkieaaGreatDoorCU0
set_option linter.unusedVariables false
set_option linter.unusedSimpArgs false
namespace Fi.S
open Go Fi
set_option maxHeartbeats 8000000
set_option maxRecDepth 10000
theorem J9 {k:Int}(hk:single k=true){S M N:Nat}(hS1:1<=S)(hS:S<=1000)(hm:(M*N+N)*(2*S+1)<=40000){x y:Sv}(hx:x.of k S M)(hy:y.of k S N){vw ww:W}(tx:Ca E1 53 [.d (bA k []),.d vw.d] (.d x.w.d,none))(ty:Ca E1 53 [.d (bA k []),.d ww.d] (.d y.w.d,none)) :
  Ca E1 21 [.d (bA k []),.d vw.d,.d ww.d] (.d (dm x y).w.d,none):=by
 have tv:=Ca.fP (Ca.bO (fO 0 k []));rw[(dW hk).1]at tv;obtain⟨vs,vl1,vl2,vc,vb,vu,vp,vps,ev⟩:=vw.aN;obtain⟨ws,wl1,wl2,wc,wb,wu,wp,wps,ew⟩:=ww.aN;rw[ev]at tx ⊢;rw[ew]at ty ⊢;clear ev ew;rcases aO hk with rfl|rfl|rfl|rfl|rfl
 ·obtain⟨a,rfl,ha⟩:=wX hx;obtain⟨b,rfl,hb⟩:=wX hy;obtain⟨K,hK,a0,a1,a2,a3⟩:=((tv).j ((tx).j ((ty).j ((Ca.fP (Gs a b omK omK)).any)))).at 0;obtain⟨s1,n1,d1,e1,g1⟩:=R7 a;obtain⟨s2,n2,d2,e2,g2⟩:=R7 b;rw[Xy];obtain⟨s3,n3,d3,e3,g3⟩:=R7 (a*b);rw[g1,g2,g3]at a3;rw[e1]at a1;rw[e2]at a2;rw[e3];clear hK tv tx ty;refine Ca.bO (n:=K+300) ?_;rw[av rfl (k21:E1.fn _=_) rfl]
  (try unfold wD at*)
  unfold bA at*;generalize LK .i64 []=l0 at*;simp -implicitDefEqProofs[aC,f21,a0,a1,a2,a3]
 ·obtain⟨i,n,rfl,hn0,hn1,hin⟩:=wY hx;obtain⟨j,m,rfl,hm0,hm1,hjm⟩:=wY hy;obtain⟨K,hK,a0,a1,a2⟩:=((tv).j ((tx).j ((ty).any))).at 0;rw[Vi];have w1:ah .i64 (n+m)=n+m:=wrap_i64 omK;have hc1:∀ i n,(Sv.c i n).w.d=wD false [] [] n i 0 [] []:=fun i n=>rfl
  rw[hc1]at a1;rw[hc1]at a2;cases i<;>cases j<;>by_cases h:1099511627776<n+m<;>simp only[h,Bool.true_or,Xc1,Bool.or_true,decide_true,decide_false,if_true,if_false,Qi0,Bool.or_false,hc1] <;>
  (clear hK tv tx ty;refine Ca.bO (n:=K+300) ?_;rw[av rfl (k21:E1.fn _=_) rfl];unfold wD bA at*;generalize LK .i64 []=l0 at*;simp -implicitDefEqProofs[f21,a0,a1,a2,h,w1])
 ·obtain⟨a,rfl,_,_,ha⟩:=wZ hx;obtain⟨b,rfl,_,_,hb⟩:=wZ hy;obtain⟨K,hK,a0,a1,a2,a3⟩:=((tv).j ((tx).j ((ty).j ((Ca.fP (Gs a b omK omK)).any)))).at 0;obtain⟨s1,n1,d1,e1,g1⟩:=R7 a;obtain⟨s2,n2,d2,e2,g2⟩:=R7 b;rw[Xy];obtain⟨s3,n3,d3,e3,g3⟩:=R7 (a*b);rw[g1,g2,g3]at a3;rw[e1]at a1;rw[e2]at a2;rw[e3];clear hK tv tx ty;refine Ca.bO (n:=K+300) ?_;rw[av rfl (k21:E1.fn _=_) rfl]
  (try unfold wD at*)
  unfold bA at*;generalize LK .i64 []=l0 at*;simp -implicitDefEqProofs[aC,f21,a0,a1,a2,a3]
 ·obtain⟨u,rfl,hu⟩:=w9 hx;obtain⟨v,rfl,hv⟩:=w9 hy;obtain⟨K,hK,a0,a1,a2⟩:=((tv).j ((tx).j ((ty).any))).at 0;rw[ti4];have hc1:∀ u,(Sv.s u).w.d=wD false [] [] 0 false u [] []:=fun u=>rfl
  rw[hc1]at a1;rw[hc1]at a2;rw[hc1];clear hK tv tx ty;refine Ca.bO (n:=K+300) ?_;rw[av rfl (k21:E1.fn _=_) rfl]
  (try unfold wD at*)
  unfold bA at*;generalize LK .i64 []=l0 at*;simp -implicitDefEqProofs[aC,f21,a0,a1,a2]
 ·obtain⟨a,rfl,ha,la⟩:=w_ hx;obtain⟨b,rfl,hb,lb⟩:=w_ hy;obtain⟨K,hK,a0,a1,a2,a3⟩:=((tv).j ((tx).j ((ty).j ((Jw hS1 hS ha hb (Qc2 (Qe1 _ (Nat.add_le_add (Q72 la lb) lb)) hm)).any)))).at 0;rw[ti5];simp only[UQ]at a1 a2 ⊢;generalize iH a b=c at*;unfold aT at*;generalize (a.map fun p=>qC p.1 p.2)=x1,(b.map fun p=>qC p.1 p.2)=x2,(c.map fun p=>qC p.1 p.2)=x3 at*;clear hK tv tx ty;refine Ca.bO (n:=K+300) ?_;rw[av rfl (k21:E1.fn _=_) rfl]
  (try unfold wD at*)
  unfold bA at*;generalize LK .i64 []=l0 at*;simp -implicitDefEqProofs[aC,f21,a0,a1,a2,a3]
theorem rY {k:Int}(hk:single k=true){S M N:Nat}(hS1:1<=S)(hS:S<=1000)(hm:(M*N+N)*(2*S+1)<=40000){x y:Sv}(hx:x.of k S M)(hy:y.of k S N) :
  Ca E1 21 [.d (bA k []),.d x.w.d,.d y.w.d] (.d (dm x y).w.d,none):=J9 hk hS1 hS hm hx hy (nR hk hS1 hS hx) (nR hk hS1 hS hy)
theorem QX {kk:Int}{ps:List Int}{S M N:Nat}{xs ys:List Sv}(hv:aJ kk ps=true)(hS1:1<=S)(hS:S<=1000)(hm:(M*N+N)*(2*S+1)<=40000)(hx:gU S M (dz kk ps) xs)(hy:gU S N (dz kk ps) ys){vw ww:W}(tx:Ca E1 53 [.d (bA kk ps),.d vw.d] (.d (bS kk xs).d,none))(ty:Ca E1 53 [.d (bA kk ps),.d ww.d] (.d (bS kk ys).d,none)) :
  Ca E1 21 [.d (bA kk ps),.d vw.d,.d ww.d] (.d (bS kk (bu xs ys)).d,none):=by
 have tv:=Ca.fP (Ca.bO (fO 0 kk ps));rw[hv]at tv;rcases ou hv hx with ⟨hk,rfl,x,rfl,h1⟩|⟨rfl,a,b,x1,x2,rfl,rfl,ha,hb,h1,h2⟩|⟨rfl,a,b,c,x1,x2,x3,rfl,rfl,ha,hb,hc,h1,h2,h3⟩
 ·have h6:=(dW hk).2;rcases ou hv hy with ⟨_,_,y,rfl,g1⟩|⟨h,_⟩|⟨h,_⟩
  ·rw[mk_one hk]at tx ty;show Ca E1 21 _ (.d (bS kk [dm x y]).d,none);rw[mk_one hk];exact J9 hk hS1 hS hm h1 g1 tx ty
  ·exact absurd h h6
  ·exact absurd h h6
 ·obtain⟨y1,y2,rfl,g1,g2⟩:∃ y1 y2,ys=[y1,y2]/\y1.of a S N/\y2.of b S N:=by
   have hl:=hy.1
   match ys,hl with
   | [y1,y2],_=>exact⟨y1,y2,rfl,hy.2 0 _ _ rfl rfl,hy.2 1 _ _ rfl rfl⟩
  obtain⟨K,hK,a0,a1,a2,b0,b1,p0,p1⟩:=((tv).j ((tx).j ((ty).j ((rY ha hS1 hS hm h1 g1).j ((rY hb hS1 hS hm h2 g2).j ((dL 6 [a,b] 0 0 rfl a rfl).j ((dL 6 [a,b] 1 1 rfl b rfl).any))))))).at 0;have e0:∀ l,bS 6 l=fQ (l.map Sv.w):=fun _=>rfl
  have e1:bu [x1,x2] [y1,y2]=[dm x1 y1,dm x2 y2]:=rfl;rw[e1,e0,ku];rw[e0,ku]at a1 a2;obtain⟨vs,vl1,vl2,vc,vb,vu,vp,vps,ev⟩:=vw.aN;obtain⟨ws,wl1,wl2,wc,wb,wu,wp,wps,ew⟩:=ww.aN;rw[ev]at a1 ⊢;rw[ew]at a2 ⊢;clear tx ty ev ew;simp only[Qd2,Qc0]at*;generalize dm x1 y1=z1,dm x2 y2=z2 at*;obtain⟨xs1,xm1,xn1,xc1,xb1,xu1,xp1,xq1,Vn⟩:=x1.w.aN;obtain⟨xs2,xm2,xn2,xc2,xb2,xu2,xp2,xq2,JN⟩:=x2.w.aN;obtain⟨ys1,ym1,yn1,yc1,yb1,yu1,yp1,yq1,Vo⟩:=y1.w.aN;obtain⟨ys2,ym2,yn2,yc2,yb2,yu2,yp2,yq2,Vp⟩:=y2.w.aN;obtain⟨U0,zm1,zn1,zc1,zb1,zu1,zp1,zq1,Vq⟩:=z1.w.aN;obtain⟨zs2,zm2,zn2,zc2,zb2,zu2,zp2,zq2,OG⟩:=z2.w.aN;simp only[Vn,JN,Vo,Vp,Vq,OG]at*;clear hK tv e0 e1 hx hy hv h1 g1 h2 g2 Vn JN Vo Vp Vq OG;refine Ca.bO (n:=K+500) ?_;rw[av rfl (k21:E1.fn _=_) rfl];unfold wD bA at*;generalize LK .i64 []=l0 at*;simp only[show LK .i64 [a,b]=[.v (.int .i64 a),.v (.int .i64 b)] from rfl]at*;simp (maxSteps:=500000) -implicitDefEqProofs[aC,f21,a0,a1,a2,b0,b1,p0,p1,most,MQ,wr2,wr3,ae.view]
 ·obtain⟨y1,y2,y3,rfl,g1,g2,g3⟩:∃ y1 y2 y3,ys=[y1,y2,y3]/\y1.of a S N/\y2.of b S N/\y3.of c S N:=by
   have hl:=hy.1
   match ys,hl with
   | [y1,y2,y3],_=>exact⟨y1,y2,y3,rfl,hy.2 0 _ _ rfl rfl,hy.2 1 _ _ rfl rfl,hy.2 2 _ _ rfl rfl⟩
  obtain⟨K,hK,a0,a1,a2,b0,b1,b2,p0,p1,p2⟩:=((tv).j ((tx).j ((ty).j ((rY ha hS1 hS hm h1 g1).j ((rY hb hS1 hS hm h2 g2).j ((rY hc hS1 hS hm h3 g3).j ((dL 6 [a,b,c] 0 0 rfl a rfl).j ((dL 6 [a,b,c] 1 1 rfl b rfl).j ((dL 6 [a,b,c] 2 2 rfl c rfl).any))))))))).at 0;have e0:∀ l,bS 6 l=fQ (l.map Sv.w):=fun _=>rfl
  have e1:bu [x1,x2,x3] [y1,y2,y3]=[dm x1 y1,dm x2 y2,dm x3 y3]:=rfl;rw[e1,e0,ku];rw[e0,ku]at a1 a2;obtain⟨vs,vl1,vl2,vc,vb,vu,vp,vps,ev⟩:=vw.aN;obtain⟨ws,wl1,wl2,wc,wb,wu,wp,wps,ew⟩:=ww.aN;rw[ev]at a1 ⊢;rw[ew]at a2 ⊢;clear tx ty ev ew;simp only[Qd2,Qc0]at*;generalize dm x1 y1=z1,dm x2 y2=z2,dm x3 y3=z3 at*;obtain⟨xs1,xm1,xn1,xc1,xb1,xu1,xp1,xq1,Vn⟩:=x1.w.aN;obtain⟨xs2,xm2,xn2,xc2,xb2,xu2,xp2,xq2,JN⟩:=x2.w.aN;obtain⟨xs3,xm3,xn3,xc3,xb3,xu3,xp3,xq3,ex3⟩:=x3.w.aN;obtain⟨ys1,ym1,yn1,yc1,yb1,yu1,yp1,yq1,Vo⟩:=y1.w.aN;obtain⟨ys2,ym2,yn2,yc2,yb2,yu2,yp2,yq2,Vp⟩:=y2.w.aN;obtain⟨ys3,ym3,yn3,yc3,yb3,yu3,yp3,yq3,ey3⟩:=y3.w.aN;obtain⟨U0,zm1,zn1,zc1,zb1,zu1,zp1,zq1,Vq⟩:=z1.w.aN;obtain⟨zs2,zm2,zn2,zc2,zb2,zu2,zp2,zq2,OG⟩:=z2.w.aN;obtain⟨zs3,zm3,zn3,zc3,zb3,zu3,zp3,zq3,ez3⟩:=z3.w.aN;simp only[Vn,JN,ex3,Vo,Vp,ey3,Vq,OG,ez3]at*;clear hK tv e0 e1 hx hy hv h1 g1 h2 g2 h3 g3 Vn JN ex3 Vo Vp ey3 Vq OG ez3;refine Ca.bO (n:=K+500) ?_;rw[av rfl (k21:E1.fn _=_) rfl];unfold wD bA at*;generalize LK .i64 []=l0 at*;simp only[show LK .i64 [a,b,c]=[.v (.int .i64 a),.v (.int .i64 b),.v (.int .i64 c)] from rfl]at*;simp (maxSteps:=500000) -implicitDefEqProofs[aC,f21,a0,a1,a2,b0,b1,b2,p0,p1,p2,most,MQ,wr2,wr3,ae.view]
theorem QY {kk:Int}{ps:List Int}{S M N:Nat}{xs ys:List Sv}(hv:aJ kk ps=true)(hS1:1<=S)(hS:S<=1000)(hm:(M*N+N)*(2*S+1)<=40000)(hx:gU S M (dz kk ps) xs)(hy:gU S N (dz kk ps) ys) :
  Ca E1 21 [.d (bA kk ps),.d (bS kk xs).d,.d (bS kk ys).d] (.d (bS kk (bu xs ys)).d,none):=QX hv hS1 hS hm hx hy (xe hv hS1 hS hx) (xe hv hS1 hS hy)
end Fi.S
noncomputable section
namespace Fi.S
open Go Fi
set_option maxHeartbeats 8000000
set_option maxRecDepth 10000
theorem VZ (kk:Int)(ps:List Int)(sy st:Int)(aM fin ak:List D)(s:Nat)(w:W)(hs:fin[s]?=some w.d) :
  Ca E1 1060 [.d (qW kk ps sy st aM fin ak),.d (.v (.int .i64 s)),.d (.s 1 (LK .i64 []))] (.d w.d,none):=by
 refine Ca.bO (n:=200) ?_;rw[av rfl (k1060:E1.fn _=_) rfl];obtain⟨ws,l1,l2,c,b,u,p,q,ew⟩:=w.aN;rw[ew]at hs ⊢;have hl:s<fin.length:=(bD hs)
 have i0:=idx hs;unfold qW wD at*;rw[show LK .i64 []=[] from rfl];generalize LK .i64 ps=l9 at*;simp -implicitDefEqProofs[f1060,i0,hl]
variable {α:Type} {e:α->W}
end Fi.S
noncomputable section
namespace Fi.S
open Go Fi
set_option maxHeartbeats 8000000
set_option maxRecDepth 10000
end Fi.S
noncomputable section
namespace Fi.S
open Go Fi
set_option maxHeartbeats 8000000
set_option maxRecDepth 10000
theorem Mo.OV {m n:Mo}(h:m.eq n=true):m=n:=by
 unfold Mo.eq at h;simp only[Qb2,decide_eq_true_eq,beq_iff_eq]at h;cases m;cases n
 simp_all
theorem V3:∀ {l m:List Mo},iT Mo.eq l m=true->l=m
 | [],[],_=>rfl
 | x::l,y::m,h=>by
  simp only[iT,Qb2]at h;rw[Mo.OV h.1,V3 h.2]
 | [],_::_,h=>by simp[iT]at h
 | _::_,[],h=>by simp[iT]at h
mutual
theorem W.OV:∀ {v w:W},v.eq w=true->v=w
 | .mk ..,.mk ..,h=>by
  simp only[W.eq,Qb2,decide_eq_true_eq,beq_iff_eq]at h;obtain⟨⟨⟨⟨⟨⟨⟨rfl,rfl⟩,rfl⟩,rfl⟩,rfl⟩,rfl⟩,h1⟩,h2⟩:=h;rw[V3 h1,W.V4 h2]
theorem W.V4:∀ {l m:List W},W.eqs l m=true->l=m
 | [],[],_=>rfl
 | x::l,y::m,h=>by
  simp only[W.eqs,Qb2]at h;rw[W.OV h.1,W.V4 h.2]
 | [],_::_,h=>by simp[W.eqs]at h
 | _::_,[],h=>by simp[W.eqs]at h
end
section vals
variable {kk:Int} {ps:List Int} (hv:aJ kk ps=true) {x:List Sv} (hx:gU 9 2 (dz kk ps) x)
end vals
end Fi.S
