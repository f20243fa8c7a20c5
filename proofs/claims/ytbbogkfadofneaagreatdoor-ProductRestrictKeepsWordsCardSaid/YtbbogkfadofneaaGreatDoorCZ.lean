import Derived.Test.YtbbogkfadofneaaGreatDoorCS2
set_option linter.unusedVariables false
set_option linter.unusedSimpArgs false
namespace Fi.S
open Go Fi
set_option maxHeartbeats 8000000
set_option maxRecDepth 10000
theorem JQ {k:Int}(hk:single k=true){S M N:Nat}(hS1:1<=S)(hS:S<=1000)(hm:(M*N+N)*(2*S+1)<=40000){x y:Sv}(hx:x.of k S M)(hy:y.of k S N){vw ww:W}(tx:Ca E1 53 [.d (aT k []),.d vw.d] (.d x.w.d,none))(ty:Ca E1 53 [.d (aT k []),.d ww.d] (.d y.w.d,none)) :
  Ca E1 21 [.d (aT k []),.d vw.d,.d ww.d] (.d (dn x y).w.d,none):=by
 have tv:=Ca.ib (Ca.bP (fU 0 k []));rw[(ek hk).1]at tv;obtain⟨vs,Qg,Qh,vc,vb,vu,vp,vps,ev⟩:=vw.aN;obtain⟨ws,wl1,wl2,wc,wb,wu,wp,wps,ew⟩:=ww.aN;rw[ev]at tx ⊢;rw[ew]at ty ⊢;clear ev ew;rcases aO hk with rfl|rfl|rfl|rfl|rfl
 ·obtain⟨a,rfl,ha⟩:=wP hx;obtain⟨b,rfl,hb⟩:=wP hy;obtain⟨K,hK,a0,a1,a2,a3⟩:=((tv).j ((tx).j ((ty).j ((Ca.ib (Gs a b ae ae)).any)))).at 0;obtain⟨s1,n1,d1,e1,g1⟩:=RU a;obtain⟨s2,n2,d2,e2,g2⟩:=RU b;rw[XC];obtain⟨s3,n3,d3,e3,g3⟩:=RU (a*b);rw[g1,g2,g3]at a3;rw[e1]at a1;rw[e2]at a2;rw[e3];clear hK tv tx ty;refine Ca.bP (n:=K+300) ?_;rw[av rfl (k21:E1.fn _=_) rfl]
  (try unfold wD at*)
  unfold aT at*;generalize LK .i64 []=l0 at*;simp[aC,f21,a0,a1,a2,a3]
 ·obtain⟨i,n,rfl,hn0,hn1,hin⟩:=wQ hx;obtain⟨j,m,rfl,hm0,hm1,hjm⟩:=wQ hy;obtain⟨K,hK,a0,a1,a2⟩:=((tv).j ((tx).j ((ty).any))).at 0;rw[Va];have w1:ai .i64 (n+m)=n+m:=wrap_i64 ae;have hc1:∀ i n,(Sv.c i n).w.d=wD false [] [] n i 0 [] []:=fun i n=>rfl
  rw[hc1]at a1;rw[hc1]at a2;cases i<;>cases j<;>by_cases h:1099511627776<n+m<;>simp only[h,Bool.true_or,Xc2,Bool.or_true,decide_true,decide_false,if_true,if_false,Qh1,Bool.or_false,hc1] <;>
  (clear hK tv tx ty;refine Ca.bP (n:=K+300) ?_;rw[av rfl (k21:E1.fn _=_) rfl];unfold wD aT at*;generalize LK .i64 []=l0 at*;simp[f21,a0,a1,a2,h,w1])
 ·obtain⟨a,rfl,_,_,ha⟩:=wR hx;obtain⟨b,rfl,_,_,hb⟩:=wR hy;obtain⟨K,hK,a0,a1,a2,a3⟩:=((tv).j ((tx).j ((ty).j ((Ca.ib (Gs a b ae ae)).any)))).at 0;obtain⟨s1,n1,d1,e1,g1⟩:=RU a;obtain⟨s2,n2,d2,e2,g2⟩:=RU b;rw[XC];obtain⟨s3,n3,d3,e3,g3⟩:=RU (a*b);rw[g1,g2,g3]at a3;rw[e1]at a1;rw[e2]at a2;rw[e3];clear hK tv tx ty;refine Ca.bP (n:=K+300) ?_;rw[av rfl (k21:E1.fn _=_) rfl]
  (try unfold wD at*)
  unfold aT at*;generalize LK .i64 []=l0 at*;simp[aC,f21,a0,a1,a2,a3]
 ·obtain⟨u,rfl,hu⟩:=wS hx;obtain⟨v,rfl,hv⟩:=wS hy;obtain⟨K,hK,a0,a1,a2⟩:=((tv).j ((tx).j ((ty).any))).at 0;rw[ti4];have hc1:∀ u,(Sv.s u).w.d=wD false [] [] 0 false u [] []:=fun u=>rfl
  rw[hc1]at a1;rw[hc1]at a2;rw[hc1];clear hK tv tx ty;refine Ca.bP (n:=K+300) ?_;rw[av rfl (k21:E1.fn _=_) rfl]
  (try unfold wD at*)
  unfold aT at*;generalize LK .i64 []=l0 at*;simp[aC,f21,a0,a1,a2]
 ·obtain⟨a,rfl,ha,la⟩:=wT hx;obtain⟨b,rfl,hb,lb⟩:=wT hy;obtain⟨K,hK,a0,a1,a2,a3⟩:=((tv).j ((tx).j ((ty).j ((Ji hS1 hS ha hb (Qc2 (Qe0 _ (Nat.add_le_add (Q72 la lb) lb)) hm)).any)))).at 0;rw[ti5];simp only[UH]at a1 a2 ⊢;generalize iJ a b=c at*;unfold aZ at*;generalize (a.map fun p=>qC p.1 p.2)=x1,(b.map fun p=>qC p.1 p.2)=x2,(c.map fun p=>qC p.1 p.2)=x3 at*;clear hK tv tx ty;refine Ca.bP (n:=K+300) ?_;rw[av rfl (k21:E1.fn _=_) rfl]
  (try unfold wD at*)
  unfold aT at*;generalize LK .i64 []=l0 at*;simp[aC,f21,a0,a1,a2,a3]
theorem rV {k:Int}(hk:single k=true){S M N:Nat}(hS1:1<=S)(hS:S<=1000)(hm:(M*N+N)*(2*S+1)<=40000){x y:Sv}(hx:x.of k S M)(hy:y.of k S N) :
  Ca E1 21 [.d (aT k []),.d x.w.d,.d y.w.d] (.d (dn x y).w.d,none):=JQ hk hS1 hS hm hx hy (nX hk hS1 hS hx) (nX hk hS1 hS hy)
theorem QL {kk:Int}{ps:List Int}{S M N:Nat}{xs ys:List Sv}(hv:aK kk ps=true)(hS1:1<=S)(hS:S<=1000)(hm:(M*N+N)*(2*S+1)<=40000)(hx:gY S M (dW kk ps) xs)(hy:gY S N (dW kk ps) ys){vw ww:W}(tx:Ca E1 53 [.d (aT kk ps),.d vw.d] (.d (cO kk xs).d,none))(ty:Ca E1 53 [.d (aT kk ps),.d ww.d] (.d (cO kk ys).d,none)) :
  Ca E1 21 [.d (aT kk ps),.d vw.d,.d ww.d] (.d (cO kk (bQ xs ys)).d,none):=by
 have tv:=Ca.ib (Ca.bP (fU 0 kk ps));rw[hv]at tv;rcases oI hv hx with ⟨hk,rfl,x,rfl,h1⟩|⟨rfl,a,b,x1,x2,rfl,rfl,ha,hb,h1,h2⟩|⟨rfl,a,b,c,x1,x2,x3,rfl,rfl,ha,hb,hc,h1,h2,h3⟩
 ·have h6:=(ek hk).2;rcases oI hv hy with ⟨_,_,y,rfl,g1⟩|⟨h,_⟩|⟨h,_⟩
  ·rw[mk_one hk]at tx ty;show Ca E1 21 _ (.d (cO kk [dn x y]).d,none);rw[mk_one hk];exact JQ hk hS1 hS hm h1 g1 tx ty
  ·exact absurd h h6
  ·exact absurd h h6
 ·obtain⟨y1,y2,rfl,g1,g2⟩:∃ y1 y2,ys=[y1,y2]/\y1.of a S N/\y2.of b S N:=by
   have hl:=hy.1
   match ys,hl with
   | [y1,y2],_=>exact⟨y1,y2,rfl,hy.2 0 _ _ rfl rfl,hy.2 1 _ _ rfl rfl⟩
  obtain⟨K,hK,a0,a1,a2,b0,b1,p0,p1⟩:=((tv).j ((tx).j ((ty).j ((rV ha hS1 hS hm h1 g1).j ((rV hb hS1 hS hm h2 g2).j ((dO 6 [a,b] 0 0 rfl a rfl).j ((dO 6 [a,b] 1 1 rfl b rfl).any))))))).at 0;have e0:∀ l,cO 6 l=fV (l.map Sv.w):=fun _=>rfl
  have e1:bQ [x1,x2] [y1,y2]=[dn x1 y1,dn x2 y2]:=rfl;rw[e1,e0,kg];rw[e0,kg]at a1 a2;obtain⟨vs,Qg,Qh,vc,vb,vu,vp,vps,ev⟩:=vw.aN;obtain⟨ws,wl1,wl2,wc,wb,wu,wp,wps,ew⟩:=ww.aN;rw[ev]at a1 ⊢;rw[ew]at a2 ⊢;clear tx ty ev ew;simp only[Qe2,Qc1]at*;generalize dn x1 y1=z1,dn x2 y2=z2 at*;obtain⟨xs1,xm1,xn1,xc1,xb1,xu1,xp1,xq1,Vg⟩:=x1.w.aN;obtain⟨xs2,xm2,xn2,xc2,xb2,xu2,xp2,xq2,Fg⟩:=x2.w.aN;obtain⟨ys1,ym1,yn1,yc1,yb1,yu1,yp1,yq1,Vh⟩:=y1.w.aN;obtain⟨ys2,ym2,yn2,yc2,yb2,yu2,yp2,yq2,Vi⟩:=y2.w.aN;obtain⟨UQ,zm1,zn1,zc1,zb1,zu1,zp1,zq1,Vj⟩:=z1.w.aN;obtain⟨zs2,zm2,zn2,zc2,zb2,zu2,zp2,zq2,JA⟩:=z2.w.aN;simp only[Vg,Fg,Vh,Vi,Vj,JA]at*;clear hK tv e0 e1 hx hy hv h1 g1 h2 g2 Vg Fg Vh Vi Vj JA;refine Ca.bP (n:=K+500) ?_;rw[av rfl (k21:E1.fn _=_) rfl];unfold wD aT at*;generalize LK .i64 []=l0 at*;simp only[show LK .i64 [a,b]=[vI a,vI b] from rfl]at*;simp (maxSteps:=500000) [aC,f21,a0,a1,a2,b0,b1,p0,p1,most,MB,wr2,wr3,ah.view]
 ·obtain⟨y1,y2,y3,rfl,g1,g2,g3⟩:∃ y1 y2 y3,ys=[y1,y2,y3]/\y1.of a S N/\y2.of b S N/\y3.of c S N:=by
   have hl:=hy.1
   match ys,hl with
   | [y1,y2,y3],_=>exact⟨y1,y2,y3,rfl,hy.2 0 _ _ rfl rfl,hy.2 1 _ _ rfl rfl,hy.2 2 _ _ rfl rfl⟩
  obtain⟨K,hK,a0,a1,a2,b0,b1,b2,p0,p1,p2⟩:=((tv).j ((tx).j ((ty).j ((rV ha hS1 hS hm h1 g1).j ((rV hb hS1 hS hm h2 g2).j ((rV hc hS1 hS hm h3 g3).j ((dO 6 [a,b,c] 0 0 rfl a rfl).j ((dO 6 [a,b,c] 1 1 rfl b rfl).j ((dO 6 [a,b,c] 2 2 rfl c rfl).any))))))))).at 0;have e0:∀ l,cO 6 l=fV (l.map Sv.w):=fun _=>rfl
  have e1:bQ [x1,x2,x3] [y1,y2,y3]=[dn x1 y1,dn x2 y2,dn x3 y3]:=rfl;rw[e1,e0,kg];rw[e0,kg]at a1 a2;obtain⟨vs,Qg,Qh,vc,vb,vu,vp,vps,ev⟩:=vw.aN;obtain⟨ws,wl1,wl2,wc,wb,wu,wp,wps,ew⟩:=ww.aN;rw[ev]at a1 ⊢;rw[ew]at a2 ⊢;clear tx ty ev ew;simp only[Qe2,Qc1]at*;generalize dn x1 y1=z1,dn x2 y2=z2,dn x3 y3=z3 at*;obtain⟨xs1,xm1,xn1,xc1,xb1,xu1,xp1,xq1,Vg⟩:=x1.w.aN;obtain⟨xs2,xm2,xn2,xc2,xb2,xu2,xp2,xq2,Fg⟩:=x2.w.aN;obtain⟨xs3,xm3,xn3,xc3,xb3,xu3,xp3,xq3,Vk⟩:=x3.w.aN;obtain⟨ys1,ym1,yn1,yc1,yb1,yu1,yp1,yq1,Vh⟩:=y1.w.aN;obtain⟨ys2,ym2,yn2,yc2,yb2,yu2,yp2,yq2,Vi⟩:=y2.w.aN;obtain⟨ys3,ym3,yn3,yc3,yb3,yu3,yp3,yq3,ey3⟩:=y3.w.aN;obtain⟨UQ,zm1,zn1,zc1,zb1,zu1,zp1,zq1,Vj⟩:=z1.w.aN;obtain⟨zs2,zm2,zn2,zc2,zb2,zu2,zp2,zq2,JA⟩:=z2.w.aN;obtain⟨zs3,zm3,zn3,zc3,zb3,zu3,zp3,zq3,ez3⟩:=z3.w.aN;simp only[Vg,Fg,Vk,Vh,Vi,ey3,Vj,JA,ez3]at*;clear hK tv e0 e1 hx hy hv h1 g1 h2 g2 h3 g3 Vg Fg Vk Vh Vi ey3 Vj JA ez3;refine Ca.bP (n:=K+500) ?_;rw[av rfl (k21:E1.fn _=_) rfl];unfold wD aT at*;generalize LK .i64 []=l0 at*;simp only[show LK .i64 [a,b,c]=[vI a,vI b,vI c] from rfl]at*;simp (maxSteps:=500000) [aC,f21,a0,a1,a2,b0,b1,b2,p0,p1,p2,most,MB,wr2,wr3,ah.view]
theorem QM {kk:Int}{ps:List Int}{S M N:Nat}{xs ys:List Sv}(hv:aK kk ps=true)(hS1:1<=S)(hS:S<=1000)(hm:(M*N+N)*(2*S+1)<=40000)(hx:gY S M (dW kk ps) xs)(hy:gY S N (dW kk ps) ys) :
  Ca E1 21 [.d (aT kk ps),.d (cO kk xs).d,.d (cO kk ys).d] (.d (cO kk (bQ xs ys)).d,none):=QL hv hS1 hS hm hx hy (wU hv hS1 hS hx) (wU hv hS1 hS hy)
end Fi.S
noncomputable section
namespace Fi.S
open Go Fi
set_option maxHeartbeats 8000000
set_option maxRecDepth 10000
variable {α:Type} {e:α->W}
end Fi.S
noncomputable section
namespace Fi.S
open Go Fi
set_option maxHeartbeats 8000000
set_option maxRecDepth 10000
end Fi.S
noncomputable section
namespace Fi.S
open Go Fi
set_option maxHeartbeats 8000000
set_option maxRecDepth 10000
theorem Mo.OC {m n:Mo}(h:m.eq n=true):m=n:=by
 unfold Mo.eq at h;simp only[Qb1,decide_eq_true_eq,beq_iff_eq]at h;cases m;cases n
 simp_all
theorem VS:∀ {l m:List Mo},kT Mo.eq l m=true->l=m
 | [],[],_=>rfl
 | x::l,y::m,h=>by
  simp only[kT,Qb1]at h;rw[Mo.OC h.1,VS h.2]
 | [],_::_,h=>by simp[kT]at h
 | _::_,[],h=>by simp[kT]at h
mutual
theorem W.OC:∀ {v w:W},v.eq w=true->v=w
 | .mk ..,.mk ..,h=>by
  simp only[W.eq,Qb1,decide_eq_true_eq,beq_iff_eq]at h;obtain⟨⟨⟨⟨⟨⟨⟨rfl,rfl⟩,rfl⟩,rfl⟩,rfl⟩,rfl⟩,h1⟩,h2⟩:=h;rw[VS h1,W.VT h2]
theorem W.VT:∀ {l m:List W},W.eqs l m=true->l=m
 | [],[],_=>rfl
 | x::l,y::m,h=>by
  simp only[W.eqs,Qb1]at h;rw[W.OC h.1,W.VT h.2]
 | [],_::_,h=>by simp[W.eqs]at h
 | _::_,[],h=>by simp[W.eqs]at h
end
section vals
variable {kk:Int} {ps:List Int} (hv:aK kk ps=true) {x:List Sv} (hx:gY 9 2 (dW kk ps) x)
include hv hx
end vals
end Fi.S
