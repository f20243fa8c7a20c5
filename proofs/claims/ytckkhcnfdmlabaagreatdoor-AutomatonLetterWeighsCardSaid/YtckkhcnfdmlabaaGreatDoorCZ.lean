import Derived.Test.YtckkhcnfdmlabaaGreatDoorCS2
import Derived.Test.YtckkhcnfdmlabaaGreatDoorCU0
set_option linter.unusedVariables false
set_option linter.unusedSimpArgs false
noncomputable section
namespace Fi.S
open Go Fi
set_option maxHeartbeats 8000000
set_option maxRecDepth 10000
theorem Kc {k:Int}(hk:single k=true){S M N:Nat}(hS1:1<=S)(hS:S<=1000)(hm:(M*N+N)*(2*S+1)<=40000){x y:Sv}(hx:x.of k S M)(hy:y.of k S N){vw ww:W}(tx:Ca E1 53 [.d (aP k []),.d vw.d] (.d x.w.d,none))(ty:Ca E1 53 [.d (aP k []),.d ww.d] (.d y.w.d,none)) :
  Ca E1 21 [.d (aP k []),.d vw.d,.d ww.d] (.d (eB x y).w.d,none):=by
 have tv:=Ca.dW (Ca.bD (dB 0 k []));rw[(dR hk).1]at tv;obtain⟨vs,Y2,Y3,vc,vb,vu,vp,Y4,ev⟩:=vw.aF;obtain⟨ws,wl1,wl2,wc,wb,wu,wp,wps,ew⟩:=ww.aF;rw[ev]at tx ⊢;rw[ew]at ty ⊢;clear ev ew;rcases a_ hk with rfl|rfl|rfl|rfl|rfl
 ·obtain⟨a,rfl,ha⟩:=RS hx;obtain⟨b,rfl,hb⟩:=RS hy;obtain⟨K,hK,a0,a1,a2,a3⟩:=((tv).j ((tx).j ((ty).j ((Ca.dW (GM a b (by omega) (by omega))).any)))).at 0;obtain⟨s1,n1,d1,e1,g1⟩:=RZ a;obtain⟨s2,n2,d2,e2,g2⟩:=RZ b;rw[ti1];obtain⟨s3,n3,d3,e3,g3⟩:=RZ (a*b);rw[g1,g2,g3]at a3;rw[e1]at a1;rw[e2]at a2;rw[e3];clear hK tv tx ty;refine Ca.bD (n:=K+300) ?_;rw[av rfl (k21:E1.fn _=_) rfl]
  (try unfold wD at*)
  unfold aP at*;generalize LK .i64 []=l0 at*;simp -implicitDefEqProofs[aC,f21,a0,a1,a2,a3]
 ·obtain⟨i,n,rfl,hn0,hn1,hin⟩:=RU hx;obtain⟨j,m,rfl,hm0,hm1,hjm⟩:=RU hy;obtain⟨K,hK,a0,a1,a2⟩:=((tv).j ((tx).j ((ty).any))).at 0;rw[ti2];have w1:ak .i64 (n+m)=n+m:=wrap_i64 (by omega);have hc1:∀ i n,(Sv.c i n).w.d=wD false [] [] n i 0 [] []:=fun i n=>rfl
  rw[hc1]at a1;rw[hc1]at a2;cases i<;>cases j<;>by_cases h:1099511627776<n+m<;>simp only[h,Bool.true_or,Bool.false_or,Bool.or_true,decide_true,decide_false,if_true,if_false,Bool.false_eq_true,Bool.or_false,hc1] <;>
  (clear hK tv tx ty;refine Ca.bD (n:=K+300) ?_;rw[av rfl (k21:E1.fn _=_) rfl];unfold wD aP at*;generalize LK .i64 []=l0 at*;simp -implicitDefEqProofs[f21,a0,a1,a2,h,w1])
 ·obtain⟨a,rfl,_,_,ha⟩:=RV hx;obtain⟨b,rfl,_,_,hb⟩:=RV hy;obtain⟨K,hK,a0,a1,a2,a3⟩:=((tv).j ((tx).j ((ty).j ((Ca.dW (GM a b (by omega) (by omega))).any)))).at 0;obtain⟨s1,n1,d1,e1,g1⟩:=RZ a;obtain⟨s2,n2,d2,e2,g2⟩:=RZ b;rw[ti1];obtain⟨s3,n3,d3,e3,g3⟩:=RZ (a*b);rw[g1,g2,g3]at a3;rw[e1]at a1;rw[e2]at a2;rw[e3];clear hK tv tx ty;refine Ca.bD (n:=K+300) ?_;rw[av rfl (k21:E1.fn _=_) rfl]
  (try unfold wD at*)
  unfold aP at*;generalize LK .i64 []=l0 at*;simp -implicitDefEqProofs[aC,f21,a0,a1,a2,a3]
 ·obtain⟨u,rfl,hu⟩:=RX hx;obtain⟨v,rfl,hv⟩:=RX hy;obtain⟨K,hK,a0,a1,a2⟩:=((tv).j ((tx).j ((ty).any))).at 0;rw[ti4];have hc1:∀ u,(Sv.s u).w.d=wD false [] [] 0 false u [] []:=fun u=>rfl
  rw[hc1]at a1;rw[hc1]at a2;rw[hc1];clear hK tv tx ty;refine Ca.bD (n:=K+300) ?_;rw[av rfl (k21:E1.fn _=_) rfl]
  (try unfold wD at*)
  unfold aP at*;generalize LK .i64 []=l0 at*;simp -implicitDefEqProofs[aC,f21,a0,a1,a2]
 ·obtain⟨a,rfl,ha,la⟩:=RY hx;obtain⟨b,rfl,hb,lb⟩:=RY hy;obtain⟨K,hK,a0,a1,a2,a3⟩:=((tv).j ((tx).j ((ty).j ((JF hS1 hS ha hb (Nat.le_trans (Nat.mul_le_mul_right _ (Nat.add_le_add (Nat.mul_le_mul la lb) lb)) hm)).any)))).at 0;rw[ti5];simp only[UL]at a1 a2 ⊢;generalize lH a b=c at*;unfold aV at*;generalize (a.map fun p=>qC p.1 p.2)=x1,(b.map fun p=>qC p.1 p.2)=x2,(c.map fun p=>qC p.1 p.2)=x3 at*;clear hK tv tx ty;refine Ca.bD (n:=K+300) ?_;rw[av rfl (k21:E1.fn _=_) rfl]
  (try unfold wD at*)
  unfold aP at*;generalize LK .i64 []=l0 at*;simp -implicitDefEqProofs[aC,f21,a0,a1,a2,a3]
theorem tV {k:Int}(hk:single k=true){S M N:Nat}(hS1:1<=S)(hS:S<=1000)(hm:(M*N+N)*(2*S+1)<=40000){x y:Sv}(hx:x.of k S M)(hy:y.of k S N) :
  Ca E1 21 [.d (aP k []),.d x.w.d,.d y.w.d] (.d (eB x y).w.d,none):=Kc hk hS1 hS hm hx hy (oO hk hS1 hS hx) (oO hk hS1 hS hy)
theorem QX {kk:Int}{ps:List Int}{S M N:Nat}{xs ys:List Sv}(hv:aH kk ps=true)(hS1:1<=S)(hS:S<=1000)(hm:(M*N+N)*(2*S+1)<=40000)(hx:jS S M (gW kk ps) xs)(hy:jS S N (gW kk ps) ys){vw ww:W}(tx:Ca E1 53 [.d (aP kk ps),.d vw.d] (.d (bA kk xs).d,none))(ty:Ca E1 53 [.d (aP kk ps),.d ww.d] (.d (bA kk ys).d,none)) :
  Ca E1 21 [.d (aP kk ps),.d vw.d,.d ww.d] (.d (bA kk (iV xs ys)).d,none):=by
 have tv:=Ca.dW (Ca.bD (dB 0 kk ps));rw[hv]at tv;rcases pK hv hx with ⟨hk,rfl,x,rfl,h1⟩|⟨rfl,a,b,x1,x2,rfl,rfl,ha,hb,h1,h2⟩|⟨rfl,a,b,c,x1,x2,x3,rfl,rfl,ha,hb,hc,h1,h2,h3⟩
 ·have h6:=(dR hk).2;rcases pK hv hy with ⟨_,_,y,rfl,g1⟩|⟨h,_⟩|⟨h,_⟩
  ·rw[mk_one hk]at tx ty;show Ca E1 21 _ (.d (bA kk [eB x y]).d,none);rw[mk_one hk];exact Kc hk hS1 hS hm h1 g1 tx ty
  ·exact absurd h h6
  ·exact absurd h h6
 ·obtain⟨y1,y2,rfl,g1,g2⟩:∃ y1 y2,ys=[y1,y2]/\y1.of a S N/\y2.of b S N:=by
   have hl:=hy.1
   match ys,hl with
   | [y1,y2],_=>exact⟨y1,y2,rfl,hy.2 0 _ _ rfl rfl,hy.2 1 _ _ rfl rfl⟩
  obtain⟨K,hK,a0,a1,a2,b0,b1,p0,p1⟩:=((tv).j ((tx).j ((ty).j ((tV ha hS1 hS hm h1 g1).j ((tV hb hS1 hS hm h2 g2).j ((dH 6 [a,b] 0 0 rfl a rfl).j ((dH 6 [a,b] 1 1 rfl b rfl).any))))))).at 0;have e0:∀ l,bA 6 l=fI (l.map Sv.w):=fun _=>rfl
  have e1:iV [x1,x2] [y1,y2]=[eB x1 y1,eB x2 y2]:=rfl;rw[e1,e0,kJ];rw[e0,kJ]at a1 a2;obtain⟨vs,Y2,Y3,vc,vb,vu,vp,Y4,ev⟩:=vw.aF;obtain⟨ws,wl1,wl2,wc,wb,wu,wp,wps,ew⟩:=ww.aF;rw[ev]at a1 ⊢;rw[ew]at a2 ⊢;clear tx ty ev ew;simp only[List.map_cons,List.map_nil]at*;generalize eB x1 y1=z1,eB x2 y2=z2 at*;obtain⟨xs1,xm1,xn1,xc1,xb1,xu1,xp1,xq1,Vi⟩:=x1.w.aF;obtain⟨xs2,xm2,xn2,xc2,xb2,xu2,xp2,xq2,FU⟩:=x2.w.aF;obtain⟨ys1,ym1,yn1,yc1,yb1,yu1,yp1,yq1,Vj⟩:=y1.w.aF;obtain⟨ys2,ym2,yn2,yc2,yb2,yu2,yp2,yq2,Om⟩:=y2.w.aF;obtain⟨UW,zm1,zn1,zc1,zb1,zu1,zp1,zq1,Vk⟩:=z1.w.aF;obtain⟨zs2,zm2,zn2,zc2,zb2,zu2,zp2,zq2,JP⟩:=z2.w.aF;simp only[Vi,FU,Vj,Om,Vk,JP]at*;clear hK tv e0 e1 hx hy hv h1 g1 h2 g2 Vi FU Vj Om Vk JP;refine Ca.bD (n:=K+500) ?_;rw[av rfl (k21:E1.fn _=_) rfl];unfold wD aP at*;generalize LK .i64 []=l0 at*;simp only[show LK .i64 [a,b]=[.v (.int .i64 a),.v (.int .i64 b)] from rfl]at*;simp (maxSteps:=500000) -implicitDefEqProofs[aC,f21,a0,a1,a2,b0,b1,p0,p1,most,JO,wr2,wr3,ae.view]
 ·obtain⟨y1,y2,y3,rfl,g1,g2,g3⟩:∃ y1 y2 y3,ys=[y1,y2,y3]/\y1.of a S N/\y2.of b S N/\y3.of c S N:=by
   have hl:=hy.1
   match ys,hl with
   | [y1,y2,y3],_=>exact⟨y1,y2,y3,rfl,hy.2 0 _ _ rfl rfl,hy.2 1 _ _ rfl rfl,hy.2 2 _ _ rfl rfl⟩
  obtain⟨K,hK,a0,a1,a2,b0,b1,b2,p0,p1,p2⟩:=((tv).j ((tx).j ((ty).j ((tV ha hS1 hS hm h1 g1).j ((tV hb hS1 hS hm h2 g2).j ((tV hc hS1 hS hm h3 g3).j ((dH 6 [a,b,c] 0 0 rfl a rfl).j ((dH 6 [a,b,c] 1 1 rfl b rfl).j ((dH 6 [a,b,c] 2 2 rfl c rfl).any))))))))).at 0;have e0:∀ l,bA 6 l=fI (l.map Sv.w):=fun _=>rfl
  have e1:iV [x1,x2,x3] [y1,y2,y3]=[eB x1 y1,eB x2 y2,eB x3 y3]:=rfl;rw[e1,e0,kJ];rw[e0,kJ]at a1 a2;obtain⟨vs,Y2,Y3,vc,vb,vu,vp,Y4,ev⟩:=vw.aF;obtain⟨ws,wl1,wl2,wc,wb,wu,wp,wps,ew⟩:=ww.aF;rw[ev]at a1 ⊢;rw[ew]at a2 ⊢;clear tx ty ev ew;simp only[List.map_cons,List.map_nil]at*;generalize eB x1 y1=z1,eB x2 y2=z2,eB x3 y3=z3 at*;obtain⟨xs1,xm1,xn1,xc1,xb1,xu1,xp1,xq1,Vi⟩:=x1.w.aF;obtain⟨xs2,xm2,xn2,xc2,xb2,xu2,xp2,xq2,FU⟩:=x2.w.aF;obtain⟨xs3,xm3,xn3,xc3,xb3,xu3,xp3,xq3,Vl⟩:=x3.w.aF;obtain⟨ys1,ym1,yn1,yc1,yb1,yu1,yp1,yq1,Vj⟩:=y1.w.aF;obtain⟨ys2,ym2,yn2,yc2,yb2,yu2,yp2,yq2,Om⟩:=y2.w.aF;obtain⟨ys3,ym3,yn3,yc3,yb3,yu3,yp3,yq3,ey3⟩:=y3.w.aF;obtain⟨UW,zm1,zn1,zc1,zb1,zu1,zp1,zq1,Vk⟩:=z1.w.aF;obtain⟨zs2,zm2,zn2,zc2,zb2,zu2,zp2,zq2,JP⟩:=z2.w.aF;obtain⟨zs3,zm3,zn3,zc3,zb3,zu3,zp3,zq3,ez3⟩:=z3.w.aF;simp only[Vi,FU,Vl,Vj,Om,ey3,Vk,JP,ez3]at*;clear hK tv e0 e1 hx hy hv h1 g1 h2 g2 h3 g3 Vi FU Vl Vj Om ey3 Vk JP ez3;refine Ca.bD (n:=K+500) ?_;rw[av rfl (k21:E1.fn _=_) rfl];unfold wD aP at*;generalize LK .i64 []=l0 at*;simp only[show LK .i64 [a,b,c]=[.v (.int .i64 a),.v (.int .i64 b),.v (.int .i64 c)] from rfl]at*;simp (maxSteps:=500000) -implicitDefEqProofs[aC,f21,a0,a1,a2,b0,b1,b2,p0,p1,p2,most,JO,wr2,wr3,ae.view]
theorem uN {kk:Int}{ps:List Int}{S M N:Nat}{xs ys:List Sv}(hv:aH kk ps=true)(hS1:1<=S)(hS:S<=1000)(hm:(M*N+N)*(2*S+1)<=40000)(hx:jS S M (gW kk ps) xs)(hy:jS S N (gW kk ps) ys) :
  Ca E1 21 [.d (aP kk ps),.d (bA kk xs).d,.d (bA kk ys).d] (.d (bA kk (iV xs ys)).d,none):=QX hv hS1 hS hm hx hy (qM hv hS1 hS hx) (qM hv hS1 hS hy)
end Fi.S
noncomputable section
namespace Fi.S
open Go Fi
set_option maxHeartbeats 8000000
set_option maxRecDepth 10000
def yo (l:List Int):List Int:=(l.take 3).map fun x=>1+x % 2
theorem ZU (l:List Int)(hl:∀ x ∈ l,jr x):Ca E1 1018 [.d (.s 1 (LK .i64 l)),.d (.v (.int .i64 2)),.d (.v (.int .i64 3))] (.d (.s 1 (LK .i64 (yo l))),none):=by
 have md:∀ x ∈ l,Ca E1 46 [.d (.v (.int .i64 x)),.d (.v (.int .i64 2))] (.d (.v (.int .i64 (x % 2))),none):=fun x hx=>Ca.dW (l_ x 2 (hl x hx) (by omega) (by omega))
 have wa:∀ x:Int,ak .i64 (1+x % 2)=1+x % 2:=fun x=>wrap_i64 (by omega)
 match l,md with
 | [],_ =>
  refine Ca.bD (n:=200) ?_;rw[av rfl (k1018:E1.fn _=_) rfl];simp -implicitDefEqProofs[aC,f1018,yo,LK]
 | [a],md =>
  obtain⟨N,t⟩:=(md a (by simp)).any;replace t:=t N (Nat.le_refl _);refine Ca.bD (n:=N+200) ?_;rw[av rfl (k1018:E1.fn _=_) rfl];simp -implicitDefEqProofs[aC,f1018,yo,LK,t,wa,JO,most,ae.view]
 | [a,b],md =>
  obtain⟨K,hK,t1,t2⟩:=((md a (by simp)).j ((md b (by simp)).any)).at 0;refine Ca.bD (n:=K+200) ?_;rw[av rfl (k1018:E1.fn _=_) rfl];simp -implicitDefEqProofs[aC,f1018,yo,LK,t1,t2,wa,JO,wr2,most,ae.view]
 | a::b::c::r,md =>
  obtain⟨K,hK,t1,t2,t3⟩:=((md a (by simp)).j ((md b (by simp)).j ((md c (by simp)).any))).at 0;refine Ca.bD (n:=K+200) ?_;rw[av rfl (k1018:E1.fn _=_) rfl];have e:LK .i64 (yo (a::b::c::r))=[.v (.int .i64 (1+a % 2)),.v (.int .i64 (1+b % 2)),.v (.int .i64 (1+c % 2))]:=by simp[LK,yo]
  rw[e];have x0:(LK .i64 (a::b::c::r))[0]?=some (.v (.int .i64 a)):=rfl;have x1:(LK .i64 (a::b::c::r))[1]?=some (.v (.int .i64 b)):=rfl;have x2:(LK .i64 (a::b::c::r))[2]?=some (.v (.int .i64 c)):=rfl;have hlen:(LK .i64 (a::b::c::r)).length=(a::b::c::r).length:=by simp[LK]
  have h3:3<=(a::b::c::r).length:=by simp
  generalize (a::b::c::r).length=n at*;generalize LK .i64 (a::b::c::r)=xs at*;have i0:=idx x0;have i1:=idx x1;have i2:=idx x2;have n0:0<n:=by omega
  have n1:1<n:=by omega
  have n2:2<n:=by omega
  have m0:(0:Int)<n:=by omega
  have m1:(1:Int)<n:=by omega
  have m2:(2:Int)<n:=by omega
  by_cases h:(3:Int)<n
  ·simp -implicitDefEqProofs[aC,f1018,t1,t2,t3,wa,JO,wr2,wr3,most,ae.view,i0,i1,i2,hlen,n0,n1,n2,m1,m2,h]
  ·simp -implicitDefEqProofs[aC,f1018,t1,t2,t3,wa,JO,wr2,wr3,most,ae.view,i0,i1,i2,hlen,n0,n1,n2,m1,m2,h]
theorem pQ (kk:Int)(ps:List Int)(sy st:Int)(aN fin ah:List D)(s:Nat)(w:W)(hs:fin[s]?=some w.d) :
  Ca E1 1060 [.d (fA kk ps sy st aN fin ah),.d (.v (.int .i64 s)),.d (.s 1 (LK .i64 []))] (.d w.d,none):=by
 refine Ca.bD (n:=200) ?_;rw[av rfl (k1060:E1.fn _=_) rfl];obtain⟨ws,l1,l2,c,b,u,p,q,ew⟩:=w.aF;rw[ew]at hs ⊢;have hl:s<fin.length:=(aW hs)
 have i0:=idx hs;unfold fA wD at*;rw[show LK .i64 []=[] from rfl];generalize LK .i64 ps=l9 at*;simp -implicitDefEqProofs[f1060,i0,hl]
theorem zO (kk:Int)(ps:List Int)(sy st:Int)(aN fin:List D)(s x:Int)(r:List Int)(z:W)(hz:Ca E1 35 [.d (aP kk ps)] (.d z.d,none)) :
  Ca E1 1060 [.d (fA kk ps sy st aN fin []),.d (.v (.int .i64 s)),.d (.s 1 (LK .i64 (x::r)))] (.d z.d,none):=by
 obtain⟨N,t⟩:=hz.get;refine Ca.bD (n:=N+200) ?_;rw[av rfl (k1060:E1.fn _=_) rfl];obtain⟨ws,l1,l2,c,b,u,p,q,ew⟩:=z.aF;rw[ew]at t ⊢;have hl:(LK .i64 (x::r)).length=r.length+1:=by simp[LK]
 have hne:((r.length:Int)+1==0)=false:=by simp;omega
 unfold fA aP wD at*;generalize LK .i64 (x::r)=l8 at*;generalize LK .i64 ps=l9 at*;simp -implicitDefEqProofs[aC,f1060,t,hl,hne]
variable {α:Type} {e:α->W}
theorem Ke (kk:Int)(ps:List Int)(sy st:Int)(aN fin:List D)(a:Ar α)(s x:Int)(r:List Int)(z:W)(hz:Ca E1 35 [.d (aP kk ps)] (.d z.d,none))(h:¬ (a.f=s/\a.l=x)) :
  Ca E1 1060 [.d (fA kk ps sy st aN fin [a.d e]),.d (.v (.int .i64 s)),.d (.s 1 (LK .i64 (x::r)))] (.d z.d,none):=by
 obtain⟨N,t⟩:=hz.get;refine Ca.bD (n:=N+300) ?_;rw[av rfl (k1060:E1.fn _=_) rfl];obtain⟨ws,l1,l2,c,b,u,p,q,ew⟩:=z.aF;obtain⟨sa,a1,a2,ac,ab,au,ap,aq,-,ea⟩:=a.dN e;rw[ew]at t ⊢;rw[ea];have hl:(LK .i64 (x::r)).length=r.length+1:=by simp[LK]
 have hne:((r.length:Int)+1==0)=false:=by simp;omega
 have x0:(LK .i64 (x::r))[0]?=some (.v (.int .i64 x)):=rfl;unfold fA aP wD nW at*;generalize LK .i64 (x::r)=l8 at*;generalize LK .i64 ps=l9 at*;have i0:=idx x0;have hp:(0:Int)<(r.length:Int)+1:=by omega
 by_cases h1:a.f=s
 ·have h2:(a.l==x)=false:=by
   rw[beq_eq_false_iff_ne];exact fun h2=>h ⟨h1,h2⟩
  simp -implicitDefEqProofs[aC,f1060,t,hl,hne,i0,h1,h2,JO]
 ·have h2:(a.f==s)=false:=by rw[beq_eq_false_iff_ne];exact h1
  simp -implicitDefEqProofs[aC,f1060,t,hl,hne,h2,JO]
theorem OD (kk:Int)(ps:List Int)(sy st:Int)(aN fin:List D)(a:Ar α)(r:List Int)(z y t' q':W)(hr:r.length<=1000)(hz:Ca E1 35 [.d (aP kk ps)] (.d z.d,none))
  (hy:Ca E1 1060 [.d (fA kk ps sy st aN fin [a.d e]),.d (.v (.int .i64 a.t)),.d (.s 1 (LK .i64 r))] (.d y.d,none))
  (ht:Ca E1 21 [.d (aP kk ps),.d (e a.x).d,.d y.d] (.d t'.d,none)) (hp:Ca E1 19 [.d (aP kk ps),.d z.d,.d t'.d] (.d q'.d,none)) :
  Ca E1 1060 [.d (fA kk ps sy st aN fin [a.d e]),.d (.v (.int .i64 a.f)),.d (.s 1 (LK .i64 (a.l::r)))] (.d q'.d,none):=by
 obtain⟨K,hK,t1,t2,t3,t4⟩:=(hz.j (hy.j (ht.j hp.any))).at 0;refine Ca.bD (n:=K+300) ?_;rw[av rfl (k1060:E1.fn _=_) rfl];obtain⟨zs,z1,z2,zc,zb,zu,zp,zq,ez⟩:=z.aF;obtain⟨ys,y1,y2,yc,yb,yu,yp,yq,ey⟩:=y.aF;obtain⟨ts,tl1,tl2,tc,tb,tu,tp,tq,et⟩:=t'.aF;obtain⟨qs',q1,q2,qc,qb,qu,qp,qq,eq⟩:=q'.aF;obtain⟨sa,a1,a2,ac,ab,au,ap,aq,ew,ea⟩:=a.dN e;simp only[ea,ez,ey,et,eq,ew]at*;have hl:(LK .i64 (a.l::r)).length=r.length+1:=by simp[LK]
 have hne:((r.length:Int)+1==0)=false:=by simp;omega
 have x0:(LK .i64 (a.l::r))[0]?=some (.v (.int .i64 a.l)):=rfl;have hd:(LK .i64 (a.l::r)).drop 1=LK .i64 r:=rfl;have htk:(LK .i64 r).take r.length=LK .i64 r:=List.take_of_length_le (by simp[LK]);clear hz hy ht hp ez ey et eq ew ea;unfold fA aP wD nW at*;generalize LK .i64 (a.l::r)=l8 at*;generalize LK .i64 r=l7,LK .i64 ps=l9 at*;have i0:=idx x0;have hp:(0:Int)<(r.length:Int)+1:=by omega
 have hp1:(1:Int)<=(r.length:Int)+1:=by omega
 have hp2:1<=r.length+1:=by omega
 simp -implicitDefEqProofs[aC,f1060,t1,t2,t3,t4,j_,EZ,hl,hne,i0,hp1,hd,htk,JO]
end Fi.S
noncomputable section
namespace Fi.S
open Go Fi
set_option maxHeartbeats 8000000
set_option maxRecDepth 10000
theorem OE (kk:Int)(ps:List Int)(sy:Int)(i0:W)(fin ah L:List D)(z y t' q':W)(hz:Ca E1 35 [.d (aP kk ps)] (.d z.d,none))
  (hy:Ca E1 1060 [.d (fA kk ps sy 1 [i0.d] fin ah),.d (.v (.int .i64 0)),.d (.s 1 L)] (.d y.d,none))
  (ht:Ca E1 21 [.d (aP kk ps),.d i0.d,.d y.d] (.d t'.d,none)) (hp:Ca E1 19 [.d (aP kk ps),.d z.d,.d t'.d] (.d q'.d,none)) :
  Ca E1 1022 [.d (fA kk ps sy 1 [i0.d] fin ah),.d (.s 1 L)] (.d q'.d,none):=by
 obtain⟨K,hK,t1,t2,t3,t4⟩:=(hz.j (hy.j (ht.j hp.any))).at 0;refine Ca.bD (n:=K+300) ?_;rw[av rfl (k1022:E1.fn _=_) rfl];obtain⟨zs,z1,z2,zc,zb,zu,zp,zq,ez⟩:=z.aF;obtain⟨ys,y1,y2,yc,yb,yu,yp,yq,ey⟩:=y.aF;obtain⟨ts,tl1,tl2,tc,tb,tu,tp,tq,et⟩:=t'.aF;obtain⟨qs',q1,q2,qc,qb,qu,qp,qq,eq⟩:=q'.aF;obtain⟨is,il1,il2,ic,ib,iu,ip,iq,ei⟩:=i0.aF;simp only[ei,ez,ey,et,eq]at*;clear hz hy ht hp ei ez ey et eq;unfold fA aP wD at*;generalize LK .i64 ps=l9 at*;simp -implicitDefEqProofs[aC,f1022,t1,t2,t3,t4,JO]
theorem ZV (kk:Int)(ps:List Int)(sy:Int)(i0 i1:W)(fin ah L:List D)(z y t' q' y2 t2' q2':W)(hz:Ca E1 35 [.d (aP kk ps)] (.d z.d,none))
  (hy:Ca E1 1060 [.d (fA kk ps sy 2 [i0.d,i1.d] fin ah),.d (.v (.int .i64 0)),.d (.s 1 L)] (.d y.d,none))
  (ht:Ca E1 21 [.d (aP kk ps),.d i0.d,.d y.d] (.d t'.d,none)) (hp:Ca E1 19 [.d (aP kk ps),.d z.d,.d t'.d] (.d q'.d,none))
  (hy2:Ca E1 1060 [.d (fA kk ps sy 2 [i0.d,i1.d] fin ah),.d (.v (.int .i64 1)),.d (.s 1 L)] (.d y2.d,none))
  (ht2:Ca E1 21 [.d (aP kk ps),.d i1.d,.d y2.d] (.d t2'.d,none)) (hp2:Ca E1 19 [.d (aP kk ps),.d q'.d,.d t2'.d] (.d q2'.d,none)) :
  Ca E1 1022 [.d (fA kk ps sy 2 [i0.d,i1.d] fin ah),.d (.s 1 L)] (.d q2'.d,none):=by
 obtain⟨K,hK,t1,t2,t3,t4,t5,t6,t7⟩:=(hz.j (hy.j (ht.j (hp.j (hy2.j (ht2.j hp2.any)))))).at 0;refine Ca.bD (n:=K+300) ?_;rw[av rfl (k1022:E1.fn _=_) rfl];obtain⟨zs,yP,yQ,zc,zb,zu,zp,zq,ez⟩:=z.aF;obtain⟨ys,yl1,yl2,yc,yb,yu,yp,yq,ey⟩:=y.aF;obtain⟨ts,tl1,tl2,tc,tb,tu,tp,tq,et⟩:=t'.aF;obtain⟨qs',ql1,ql2,qc,qb,qu,qp,qq,eq⟩:=q'.aF;obtain⟨ys2,yl3,yl4,yc2,yb2,yu2,yp2,yq2,Om⟩:=y2.aF;obtain⟨ts2,tl3,tl4,tc2,tb2,tu2,tp2,tq2,et2⟩:=t2'.aF;obtain⟨qs2,ql3,ql4,qc2,qb2,qu2,qp2,qq2,eq2⟩:=q2'.aF;obtain⟨is,il1,il2,ic,ib,iu,ip,iq,ei⟩:=i0.aF;obtain⟨js,jl1,jl2,jc,jb,ju,jp,jq,ej⟩:=i1.aF;simp only[ei,ej,ez,ey,et,eq,Om,et2,eq2]at*;clear hz hy ht hp hy2 ht2 hp2 ei ej ez ey et eq Om et2 eq2;unfold fA aP wD at*;generalize LK .i64 ps=l9 at*;simp -implicitDefEqProofs[aC,f1022,t1,t2,t3,t4,t5,t6,t7,JO,wr2]
theorem wE (aw:Ca E1 1011 [] (.d (.v (.bool true)),none))(k sb sb' v:Int)(l x:List Int)(kk:Int)(ps:List Int)(w z u q:W)(A:D)(hA:∃ a b c d f g h,A=fA a b c d f g h)
  (h1:Ca E1 15 [.d (.v (.int .i64 k))] (.d (aP kk ps),none)) (h2:Ca E1 46 [.d (.v (.int .i64 sb)),.d (.v (.int .i64 3))] (.d (.v (.int .i64 sb')),none))
  (h3:Ca E1 16 [.d (aP kk ps),.d (.v (.int .i64 v))] (.d w.d,none))
  (h4:Ca E1 1012 [.d (aP kk ps),.d (.v (.int .i64 2)),.d (.v (.int .i64 sb')),.d w.d] (.d (.t [A,.v (.int .i64 0)]),none))
  (h5:Ca E1 1018 [.d (.s 1 (LK .i64 l)),.d (.v (.int .i64 2)),.d (.v (.int .i64 3))] (.d (.s 1 (LK .i64 x)),none))
  (h6:Ca E1 35 [.d (aP kk ps)] (.d z.d,none)) (h7:Ca E1 1020 [.d A] (.d (.v (.bool true)),none)) (h8:Ca E1 1022 [.d A,.d (.s 1 (LK .i64 x))] (.d q.d,none))
  (h9:Ca E1 12 [.d q.d,.d u.d] (.d (.v (.bool true)),none)) (hs:0<=sb') (hu:u=if (sb'=0/\x=[])\/(0<sb'/\x=[sb']) then w else z) :
  Ca E1 1004 [.d (.v (.int .i64 k)),.d (.v (.int .i64 sb)),.d (.v (.int .i64 v)),.d (.s 1 (LK .i64 l))] (.d (.v (.bool true)),none):=by
 obtain⟨K,hK,t0,t1,t2,t3,t4,t5,t6,t7,t8,t9⟩:=(aw.j (h1.j (h2.j (h3.j (h4.j (h5.j (h6.j (h7.j (h8.j h9.any))))))))).at 0;refine Ca.bD (n:=K+300) ?_;rw[av rfl (k1004:E1.fn _=_) rfl];obtain⟨qa,qb',qc',qd,qf,qg,qh,rfl⟩:=hA;obtain⟨zs,yP,yQ,zc,zb,zu,zp,zq,ez⟩:=z.aF;obtain⟨ws,wl1,wl2,wc,wb,wu,wp,wq,ew⟩:=w.aF;obtain⟨qs',ql1,ql2,qc,qb,qu,qp,qq,eq⟩:=q.aF;have hud:u.d=if (sb'=0/\x=[])\/(0<sb'/\x=[sb']) then w.d else z.d:=by rw[hu];split<;>rfl
 rw[hud]at t9;simp only[ez,ew,eq]at*;clear h1 h2 h3 h4 h5 h6 h7 h8 h9 ez ew eq hu hud aw hK;unfold fA aP wD at*;generalize LK .i64 l=l7,LK .i64 qb'=l8,LK .i64 ps=l9 at*
 by_cases h0:sb'=0
 ·subst h0;have n0:¬ (0:Int)<0:=by omega
  cases x with
  | nil =>
   simp only[true_and,if_true,true_or]at t9;rw[show LK .i64 []=[] from rfl]at t5 t8;simp (maxSteps:=400000) -implicitDefEqProofs[f1004,t0,t1,t2,t3,t4,t5,t6,t7,t8,t9,gZ]
  | cons y r =>
   have hx:¬ (((0:Int)=0/\y::r=[])\/((0:Int)<0/\y::r=[0])):=by simp
   rw[if_neg hx]at t9;have hl:(LK .i64 (y::r)).length=r.length+1:=by simp[LK]
   have hne:((r.length:Int)+1==0)=false:=by simp;omega
   generalize LK .i64 (y::r)=l6 at*;simp (maxSteps:=400000) -implicitDefEqProofs[f1004,t0,t1,t2,t3,t4,t5,t6,t7,t8,t9,gZ,hl,hne]
 ·have hp:0<sb':=by omega
  have he:(sb'==0)=false:=by simpa using h0
  match x with
  | [] =>
   have hx:¬ ((sb'=0/\([]:List Int)=[])\/(0<sb'/\([]:List Int)=[sb'])):=by simp[h0]
   rw[if_neg hx]at t9;rw[show LK .i64 []=[] from rfl]at t5 t8;simp (maxSteps:=400000) -implicitDefEqProofs[f1004,t0,t1,t2,t3,t4,t5,t6,t7,t8,t9,gZ,he,hp]
  | [y] =>
   rw[show LK .i64 [y]=[.v (.int .i64 y)] from rfl]at t5 t8
   by_cases hy:y=sb'
   ·subst hy;have hx:(y=0/\[y]=[])\/(0<y/\[y]=[y]):=.inr ⟨hp,rfl⟩;rw[if_pos hx]at t9;simp (maxSteps:=400000) -implicitDefEqProofs[f1004,t0,t1,t2,t3,t4,t5,t6,t7,t8,t9,gZ,he,hp]
   ·have hx:¬ ((sb'=0/\[y]=[])\/(0<sb'/\[y]=[sb'])):=by simp[hy]
    rw[if_neg hx]at t9;have hye:(y==sb')=false:=by simpa using hy
    simp (maxSteps:=400000) -implicitDefEqProofs[f1004,t0,t1,t2,t3,t4,t5,t6,t7,t8,t9,gZ,he,hp,hye]
  | y::y'::r =>
   have hx:¬ ((sb'=0/\y::y'::r=[])\/(0<sb'/\y::y'::r=[sb'])):=by simp
   rw[if_neg hx]at t9;have hl:(LK .i64 (y::y'::r)).length=r.length+2:=by simp[LK]
   have hne:((r.length:Int)+2==1)=false:=by simp;omega
   generalize LK .i64 (y::y'::r)=l6 at*;simp (maxSteps:=400000) -implicitDefEqProofs[f1004,t0,t1,t2,t3,t4,t5,t6,t7,t8,t9,gZ,he,hp,hl,hne]
end Fi.S
noncomputable section
namespace Fi.S
open Go Fi
set_option maxHeartbeats 8000000
set_option maxRecDepth 10000
def OG (kk:Int)(ps:List Int)(n:Nat)(xs:List Sv):Prop:=1<=n/\jS (10*n-1) (2*n) (gW kk ps) xs
theorem ai_ {kk:Int}{ps:List Int}(hv:aH kk ps=true):MF kk ps (bA kk) (gV (gW kk ps)) (bA kk (aS kk ps)) (A8 kk ps) (OG kk ps) 20 where
 mono n x h:=⟨by omega,h.2.mono (by omega) (by omega)⟩
 zero:=zw hv
 pz x h:=by
  have h3:jS 9 2 (gW kk ps) x:=h.2;have:=BB hv (by omega) (by omega) h3 (mY (M:=2) (by omega) (bI hv));rw[qL (S:=9) (M:=2) (by omega) (bI hv) h3]at this;exact this
 tk x h:=qM hv (by omega) (by omega) h.2
 p1 n x y hn hx hy:=by
  have h1:=hx.1;refine BB hv (S:=199) (M:=40) (by omega) (by omega) (hx.2.mono (by omega) (by omega)) (hy.2.mono (by omega) (by omega))
 p2 n x y hn hx hy:=by
  have h1:=hx.1;refine xP hv (S:=199) (M:=40) (by omega) (by omega) (hx.2.mono (by omega) (by omega)) (hy.2.mono (by omega) (by omega))
 pg n x y hn hx hy:=by
  have h1:=hx.1;exact⟨by omega,(DD (by omega) (by omega) (bI hv) hx.2 hy.2).mono (by omega) (by omega)⟩
 z1 n x hn hx:=(Hl hv (by omega) hx.2).1
 z2 n x hn hx:=(Hl hv (by omega) hx.2).2
theorem Mo.OH {m n:Mo}(h:m.eq n=true):m=n:=by
 unfold Mo.eq at h;simp only[Bool.and_eq_true,decide_eq_true_eq,beq_iff_eq]at h;cases m;cases n
 simp_all
theorem Wi:∀ {l m:List Mo},iQ Mo.eq l m=true->l=m
 | [],[],_=>rfl
 | x::l,y::m,h=>by
  simp only[iQ,Bool.and_eq_true]at h;rw[Mo.OH h.1,Wi h.2]
 | [],_::_,h=>by simp[iQ]at h
 | _::_,[],h=>by simp[iQ]at h
mutual
theorem W.OH:∀ {v w:W},v.eq w=true->v=w
 | .mk ..,.mk ..,h=>by
  simp only[W.eq,Bool.and_eq_true,decide_eq_true_eq,beq_iff_eq]at h;obtain⟨⟨⟨⟨⟨⟨⟨rfl,rfl⟩,rfl⟩,rfl⟩,rfl⟩,rfl⟩,h1⟩,h2⟩:=h;rw[Wi h1,W.Wj h2]
theorem W.Wj:∀ {l m:List W},W.eqs l m=true->l=m
 | [],[],_=>rfl
 | x::l,y::m,h=>by
  simp only[W.eqs,Bool.and_eq_true]at h;rw[W.OH h.1,W.Wj h.2]
 | [],_::_,h=>by simp[W.eqs]at h
 | _::_,[],h=>by simp[W.eqs]at h
end
section vals
variable {kk:Int} {ps:List Int} (hv:aH kk ps=true) {x:List Sv} (hx:jS 9 2 (gW kk ps) x)
theorem zM (hv:aH kk ps=true):jS 9 2 (gW kk ps) (aS kk ps):=mY (by omega) (bI hv)
theorem oM (hv:aH kk ps=true):jS 9 2 (gW kk ps) (bS kk ps):=JL (by omega) (by omega) (bI hv)
include hv hx
theorem af_:Ca E1 21 [.d (aP kk ps),.d (bA kk x).d,.d (bA kk (bS kk ps)).d] (.d (bA kk x).d,none):=by
 have:=uN hv (by omega) (by omega) (by omega) hx (oM hv);rw[show iV x (bS kk ps)=x from Du (by omega) (bI hv) hx]at this;exact this
theorem ai':Ca E1 21 [.d (aP kk ps),.d (bA kk (bS kk ps)).d,.d (bA kk x).d] (.d (bA kk x).d,none):=by
 have:=uN hv (by omega) (by omega) (by omega) (oM hv) hx;rw[Ak (by omega) (bI hv) (oM hv) hx,show iV x (bS kk ps)=x from Du (by omega) (bI hv) hx]at this;exact this
theorem af':Ca E1 21 [.d (aP kk ps),.d (bA kk x).d,.d (bA kk (aS kk ps)).d] (.d (bA kk (aS kk ps)).d,none):=by
 have:=uN hv (by omega) (by omega) (by omega) hx (zM hv);rw[show iV x (aS kk ps)=aS kk ps from Al (bI hv) hx]at this;exact this
theorem aja:Ca E1 21 [.d (aP kk ps),.d (bA kk (aS kk ps)).d,.d (bA kk x).d] (.d (bA kk (aS kk ps)).d,none):=by
 have:=uN hv (by omega) (by omega) (by omega) (zM hv) hx;rw[Ak (by omega) (bI hv) (zM hv) hx,show iV x (aS kk ps)=aS kk ps from Al (bI hv) hx]at this;exact this
theorem Wl:Ca E1 19 [.d (aP kk ps),.d (bA kk (aS kk ps)).d,.d (bA kk x).d] (.d (bA kk x).d,none):=by
 have:=xP hv (by omega) (by omega) (zM hv) hx;rw[Mw (by omega) (bI hv) (zM hv) hx,show gV (gW kk ps) x (aS kk ps)=x from qL (by omega) (bI hv) hx]at this;exact this
theorem ajb:Ca E1 19 [.d (aP kk ps),.d (bA kk x).d,.d (bA kk (aS kk ps)).d] (.d (bA kk x).d,none):=by
 have:=xP hv (by omega) (by omega) hx (zM hv);rw[show gV (gW kk ps) x (aS kk ps)=x from qL (by omega) (bI hv) hx]at this;exact this
theorem MU (l:List Int):Ca E1 1022 [.d (jf kk ps 2 1 [bA kk x] [bA kk (bS kk ps)] (bA kk) []),.d (.s 1 (LK .i64 l))] (.d (bA kk (if l=[] then x else aS kk ps)).d,none):=by
 cases l with
 | nil =>
  rw[if_pos rfl];exact OE kk ps 2 (bA kk x) _ _ _ _ _ _ _ (eQ hv) (pQ kk ps 2 1 _ _ _ 0 (bA kk (bS kk ps)) rfl) (af_ hv hx) (Wl hv hx)
 | cons y r =>
  rw[if_neg (by simp)];exact OE kk ps 2 (bA kk x) _ _ _ _ _ _ _ (eQ hv) (zO kk ps 2 1 _ _ 0 y r _ (eQ hv)) (af' hv hx) (Wl hv (zM hv))
theorem mZ (fin ah L:List D)(y:List Sv)(h0:Ca E1 1060 [.d (fA kk ps 2 2 [(bA kk (bS kk ps)).d,(bA kk (aS kk ps)).d] fin ah),.d (.v (.int .i64 0)),.d (.s 1 L)] (.d (bA kk x).d,none))
  (hy:jS 9 2 (gW kk ps) y) (h1:Ca E1 1060 [.d (fA kk ps 2 2 [(bA kk (bS kk ps)).d,(bA kk (aS kk ps)).d] fin ah),.d (.v (.int .i64 1)),.d (.s 1 L)] (.d (bA kk y).d,none)) :
  Ca E1 1022 [.d (fA kk ps 2 2 [(bA kk (bS kk ps)).d,(bA kk (aS kk ps)).d] fin ah),.d (.s 1 L)] (.d (bA kk x).d,none) :=
 ZV kk ps 2 _ _ _ _ _ _ _ _ _ _ _ _ (eQ hv) h0 (ai' hv hx) (Wl hv hx) h1 (aja hv hy) (ajb hv hx)
omit hx in
theorem MV (l:List Int):Ca E1 1022 [.d (jf kk ps 2 2 [bA kk (bS kk ps),bA kk (aS kk ps)] [bA kk (aS kk ps),bA kk (bS kk ps)] (bA kk) []),.d (.s 1 (LK .i64 l))] (.d (bA kk (aS kk ps)).d,none):=by
 cases l with
 | nil=>exact mZ hv (zM hv) _ _ _ _ (pQ kk ps 2 2 _ _ _ 0 (bA kk (aS kk ps)) rfl) (oM hv) (pQ kk ps 2 2 _ _ _ 1 (bA kk (bS kk ps)) rfl)
 | cons y r=>exact mZ hv (zM hv) _ _ _ _ (zO kk ps 2 2 _ _ 0 y r _ (eQ hv)) (zM hv) (zO kk ps 2 2 _ _ 1 y r _ (eQ hv))
theorem QY (sb:Int)(l:List Int)(hl:l.length<=3):Ca E1 1022 [.d (jf kk ps 2 2 [bA kk (bS kk ps),bA kk (aS kk ps)] [bA kk (aS kk ps),bA kk (bS kk ps)] (bA kk) [⟨0,sb,1,x⟩]),.d (.s 1 (LK .i64 l))] (.d (bA kk (if l=[sb] then x else aS kk ps)).d,none):=by
 have off:∀ y r,Ca E1 1060 [.d (fA kk ps 2 2 [(bA kk (bS kk ps)).d,(bA kk (aS kk ps)).d] [(bA kk (aS kk ps)).d,(bA kk (bS kk ps)).d] [Ar.d (bA kk) ⟨0,sb,1,x⟩]),.d (.v (.int .i64 1)),.d (.s 1 (LK .i64 (y::r)))] (.d (bA kk (aS kk ps)).d,none) :=
  fun y r=>Ke (e:=bA kk) kk ps 2 2 _ _ ⟨0,sb,1,x⟩ 1 y r _ (eQ hv) (by simp)
 cases l with
 | nil =>
  rw[if_neg (by simp)];exact mZ hv (zM hv) _ _ _ _ (pQ kk ps 2 2 _ _ _ 0 (bA kk (aS kk ps)) rfl) (oM hv) (pQ kk ps 2 2 _ _ _ 1 (bA kk (bS kk ps)) rfl)
 | cons y r =>
  by_cases hy:y=sb
  ·subst hy;cases r with
   | nil =>
    rw[if_pos rfl];exact mZ hv hx _ _ _ _ (OD (e:=bA kk) kk ps 2 2 _ _ ⟨0,y,1,x⟩ [] _ _ _ _ (by simp) (eQ hv) (pQ kk ps 2 2 _ _ _ 1 (bA kk (bS kk ps)) rfl) (af_ hv hx) (Wl hv hx)) (zM hv) (off y [])
   | cons y2 r =>
    rw[if_neg (by simp)];exact mZ hv (zM hv) _ _ _ _ (OD (e:=bA kk) kk ps 2 2 _ _ ⟨0,y,1,x⟩ (y2::r) _ _ _ _ (by simp at hl ⊢;omega) (eQ hv) (off y2 r) (af' hv hx) (Wl hv (zM hv))) (zM hv) (off y (y2::r))
  ·rw[if_neg (by simp[hy])];exact mZ hv (zM hv) _ _ _ _ (Ke (e:=bA kk) kk ps 2 2 _ _ ⟨0,sb,1,x⟩ 0 y r _ (eQ hv) (by simp;exact fun h=>hy h.symm)) (zM hv) (off y r)
end vals
theorem QZ (l:List Int):(yo l).length<=3:=by
 unfold yo;rw[List.length_map,List.length_take];omega
theorem Wm (k sb v:Int)(l:List Int)(hk:jr k)(hsb:jr sb)(hv:jr v)(hl:∀ x ∈ l,jr x)(aw:Ca E1 1011 [] (.d (.v (.bool true)),none)) :
  Ca E1 1004 [.d (.v (.int .i64 k)),.d (.v (.int .i64 sb)),.d (.v (.int .i64 v)),.d (.s 1 (LK .i64 l))] (.d (.v (.bool true)),none):=by
 have iC:=MB k;have hx:jS 9 2 _ (FT (pI k) (vk k) v):=Qq iC v;have c3:=Vg iC v hv;have c1:=Ca.dW (YW k hk);generalize FT (pI k) (vk k) v=x at*;generalize pI k=kk,vk k=ps at*;have c2:=Ca.dW (l_ sb 3 hsb (by omega) (by omega));have hs0:0<=sb % 3/\sb % 3<=2:=by omega
 generalize sb % 3=s at*;have c5:=ZU l hl;have hwl:=QZ l;generalize yo l=wd at*;have hps:ps.length<=1000000:=Hd iC;have hW:=ai_ iC;obtain⟨ho,-⟩:=Oi iC;have gx:OG kk ps 1 x:=⟨by omega,hx⟩
 have gz:OG kk ps 1 (aS kk ps):=⟨by omega,zM iC⟩
 have go:OG kk ps 1 (bS kk ps):=⟨by omega,oM iC⟩
 have ok:∀ {y},jS 9 2 (gW kk ps) y->(bA kk y).OK:=fun h=>vC iC (by omega) h
 have ck:∀ {y},jS 9 2 (gW kk ps) y->bO kk ps (bA kk y)=true:=fun h=>tJ iC h
 have hc:=Ca.dW (sK kk ps (bA kk x) hps (ok hx));rw[ck hx]at hc;have h22:kZ 2 1 32=true:=by decide
 by_cases h0:s=0
 ·subst h0;have hV:=jg (e:=bA kk) kk ps 2 1 [bA kk x] [bA kk (bS kk ps)] [] hps (by simp) (by simp) (by simp) (by simpa using ok hx) (by simpa using ok (oM iC)) (by simp);have hV':=qO (e:=bA kk) kk ps 2 1 [bA kk x] [bA kk (bS kk ps)] [] hps (by simp) (by simp) (by simp) (by simpa using ok hx) (by simpa using ok (oM iC)) (by simp);have hb:rP kk ps 2 1 [bA kk x] [bA kk (bS kk ps)] (bA kk) []=true:=by simp[rP,vD,iC,ck hx,ck (oM iC)]
  rw[hb]at hV hV';have hN:=iN hW 2 1 [x] [bS kk ps] [] hps (by simp) (by simp) (by simp) (by simp) (by simpa using gx) (by simpa using go) (by simp) hV;rw[show lK (gV (gW kk ps)) (A8 kk ps) ([]:List (Ar (List Sv)))=[] from rfl]at hN;have hL:=J6 (e:=bA kk) 2 (bA kk x) x (bS kk ps) (aS kk ps) _ _ rfl ⟨_,_,_,_,_,_,_,rfl⟩ iC h22 _ hc rfl hW.zero ho hN;refine wE aw k sb 0 v l wd kk ps _ _ _ _ ⟨_,_,_,_,_,_,_,rfl⟩ c1 c2 c3 hL c5 (eQ iC) hV' (MU iC hx wd) (u:=bA kk (if wd=[] then x else aS kk ps)) ?_ (by omega) ?_
  ·split
   ·exact xN iC (by omega) hx
   ·exact xN iC (by omega) (zM iC)
  ·by_cases h:wd=[]<;>simp[h,aS]
 ·have hin:kZ s 0 2=true:=by simp[kZ,hs0]
  have hV:=fun(ah:List (Ar (List Sv))) (h:ah=[]\/ah=[⟨0,s,1,x⟩])=>jg (e:=bA kk) kk ps 2 2 [bA kk (bS kk ps),bA kk (aS kk ps)] [bA kk (aS kk ps),bA kk (bS kk ps)] ah hps (by simp) (by simp) (by rcases h with rfl|rfl<;>simp) (by simp[ok (oM iC),ok (zM iC)]) (by simp[ok (oM iC),ok (zM iC)]) (by rcases h with rfl|rfl<;>simp[ok hx])
  have hV':=fun(ah:List (Ar (List Sv))) (h:ah=[]\/ah=[⟨0,s,1,x⟩])=>qO (e:=bA kk) kk ps 2 2 [bA kk (bS kk ps),bA kk (aS kk ps)] [bA kk (aS kk ps),bA kk (bS kk ps)] ah hps (by simp) (by simp) (by rcases h with rfl|rfl<;>simp) (by simp[ok (oM iC),ok (zM iC)]) (by simp[ok (oM iC),ok (zM iC)]) (by rcases h with rfl|rfl<;>simp[ok hx])
  have hb:∀ (ah:List (Ar (List Sv))) (h:ah=[]\/ah=[⟨0,s,1,x⟩]),rP kk ps 2 2 [bA kk (bS kk ps),bA kk (aS kk ps)] [bA kk (aS kk ps),bA kk (bS kk ps)] (bA kk) ah=true:=by
   intro ah h;unfold kZ at hin;simp only[Bool.and_eq_true,decide_eq_true_eq]at hin;rcases h with rfl|rfl<;>simp[rP,vD,iC,ck hx,ck (oM iC),ck (zM iC),hin,nX,uL]
  have hN:=iN hW 2 2 [bS kk ps,aS kk ps] [aS kk ps,bS kk ps] [⟨0,s,1,x⟩] hps (by simp) (by simp) (by simp) (by simp) (by simp[go,gz]) (by simp[go,gz]) (by simpa using gx) (by
   have:=hV _ (.inr rfl);rw[hb _ (.inr rfl)]at this;exact this)
  have hL:=Ox (e:=bA kk) 2 s (bA kk x) x (bS kk ps) (aS kk ps) _ _ rfl ⟨_,_,_,_,_,_,_,rfl⟩ iC h22 hin h0 _ hc rfl hW.zero ho hN;have ha:lK (gV (gW kk ps)) (A8 kk ps) [⟨0,s,1,x⟩]=if A8 kk ps x then [] else [⟨0,s,1,x⟩]:=by
   unfold lK dS;simp only[List.foldl_cons,List.foldl_nil,bY,List.filter_cons,List.filter_nil];cases A8 kk ps x<;>rfl
  rw[ha]at hL
  by_cases hz:A8 kk ps x=true
  ·rw[if_pos hz]at hL;have hx0:bA kk x=bA kk (aS kk ps):=W.OH hz;have h7:=hV' [] (.inl rfl);rw[hb _ (.inl rfl)]at h7;refine wE aw k sb s v l wd kk ps _ _ _ _ ⟨_,_,_,_,_,_,_,rfl⟩ c1 c2 c3 hL c5 (eQ iC) h7 (MV iC wd) (u:=bA kk (aS kk ps)) (xN iC (by omega) (zM iC)) (by omega) ?_;rw[hx0];exact(ite_self _).symm
  ·rw[if_neg hz]at hL;have h7:=hV' _ (.inr rfl);rw[hb _ (.inr rfl)]at h7;refine wE aw k sb s v l wd kk ps _ _ _ _ ⟨_,_,_,_,_,_,_,rfl⟩ c1 c2 c3 hL c5 (eQ iC) h7 (QY iC hx s wd hwl) (u:=bA kk (if wd=[s] then x else aS kk ps)) ?_ (by omega) ?_
   ·split
    ·exact xN iC (by omega) hx
    ·exact xN iC (by omega) (zM iC)
   ·by_cases h:wd=[s]
    ·have:0<s:=by omega
     simp[h,this]
    ·simp[h,h0,aS]
end Fi.S
