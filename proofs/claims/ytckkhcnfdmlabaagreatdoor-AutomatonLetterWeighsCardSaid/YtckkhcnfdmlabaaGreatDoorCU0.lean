import Derived.Test.YtckkhcnfdmlabaaGreatDoorCT
set_option linter.unusedVariables false
set_option linter.unusedSimpArgs false
namespace Fi.S
open Go Fi
set_option maxHeartbeats 8000000
set_option maxRecDepth 10000
section
variable {α:Type} {e:α->W} {kk:Int} {ps:List Int}
theorem VF (sy sb:Int)(w:W)(hv:aH kk ps=false):Ca E1 1012 [.d (aP kk ps),.d (.v (.int .i64 sy)),.d (.v (.int .i64 sb)),.d w.d] (.d (.t [zF,.v (.int .i64 6)]),none):=by
 obtain⟨N,t⟩:=(Ca.dW (Ca.bD (fZ 0 kk ps))).get;rw[hv]at t;refine Ca.bD (n:=N+200) ?_;rw[av rfl (k1012:E1.fn _=_) rfl];obtain⟨s,l1,l2,c,b,u,p,q,ew⟩:=w.aF;rw[ew];unfold zF fA aP wD at*;rw[show LK .i64 []=[] from rfl];generalize LK .i64 ps=l9 at*;simp -implicitDefEqProofs[f1012,t,gZ]
theorem QI (sy sb:Int)(w:W)(hv:aH kk ps=true)(h:kZ sy 1 32=false):Ca E1 1012 [.d (aP kk ps),.d (.v (.int .i64 sy)),.d (.v (.int .i64 sb)),.d w.d] (.d (.t [zF,.v (.int .i64 1)]),none):=by
 obtain⟨N,t⟩:=(Ca.dW (Ca.bD (fZ 0 kk ps))).get;rw[hv]at t;refine Ca.bD (n:=N+200) ?_;rw[av rfl (k1012:E1.fn _=_) rfl];obtain⟨s,l1,l2,c,b,u,p,q,ew⟩:=w.aF;rw[ew];unfold zF fA aP wD at*;rw[show LK .i64 []=[] from rfl];generalize LK .i64 ps=l9 at*
 by_cases h1:sy<1
 ·simp -implicitDefEqProofs[f1012,t,gZ,h1]
 ·have h2:32<sy:=by
   unfold kZ at h;simp only[Bool.and_eq_false_iff,decide_eq_false_iff_not]at h;omega
  simp -implicitDefEqProofs[f1012,t,gZ,h1,h2]
theorem QJ (sy sb:Int)(w:W)(hv:aH kk ps=true)(hs:kZ sy 1 32=true)(h:kZ sb 0 sy=false):Ca E1 1012 [.d (aP kk ps),.d (.v (.int .i64 sy)),.d (.v (.int .i64 sb)),.d w.d] (.d (.t [zF,.v (.int .i64 9)]),none):=by
 obtain⟨N,t⟩:=(Ca.dW (Ca.bD (fZ 0 kk ps))).get;rw[hv]at t;refine Ca.bD (n:=N+200) ?_;rw[av rfl (k1012:E1.fn _=_) rfl];obtain⟨s,l1,l2,c,b,u,p,q,ew⟩:=w.aF;rw[ew];unfold zF fA aP wD at*;rw[show LK .i64 []=[] from rfl];generalize LK .i64 ps=l9 at*;have h1:¬ sy<1/\¬ 32<sy:=by
  unfold kZ at hs;simp only[Bool.and_eq_true,decide_eq_true_eq]at hs;omega
 obtain⟨h1,h2⟩:=h1
 by_cases h3:sb<0
 ·simp -implicitDefEqProofs[f1012,t,gZ,h1,h2,h3]
 ·have h4:sy<sb:=by
   unfold kZ at h;simp only[Bool.and_eq_false_iff,decide_eq_false_iff_not]at h;omega
  simp -implicitDefEqProofs[f1012,t,gZ,h1,h2,h3,h4]
theorem J6 (sy:Int)(w:W)(x o z:α)(r:FV × Option (List ae))(A:D)(hr:r=(.d (.t [A,.v (.int .i64 0)]),none))(hA:∃ a b c d f g h,A=fA a b c d f g h)(hv:aH kk ps=true)(hs:kZ sy 1 32=true)(ck:Bool)(hc:Ca E1 18 [.d (aP kk ps),.d w.d] (.d (.v (.bool ck)),none))(hx:(if ck then w else e z)=e x)
  (hz:Ca E1 26 [.d (aP kk ps)] (.d (e z).d,none)) (ho:Ca E1 27 [.d (aP kk ps)] (.d (e o).d,none)) (hN:Ca E1 1024 [.d (jf kk ps sy 1 [e x] [e o] e [])] r) :
  Ca E1 1012 [.d (aP kk ps),.d (.v (.int .i64 sy)),.d (.v (.int .i64 0)),.d w.d] r:=by
 subst hr;obtain⟨N1,t1⟩:=(Ca.dW (Ca.bD (fZ 0 kk ps))).any;rw[hv]at t1;obtain⟨N2,t2⟩:=hc.any;obtain⟨N3,t3⟩:=hz.any;obtain⟨N4,t4⟩:=ho.any;obtain⟨N5,t5⟩:=hN.any;obtain⟨K,hK⟩:∃ K,K=N1+N2+N3+N4+N5:=⟨_,rfl⟩
 replace t1:=t1 K (by omega);replace t2:=t2 K (by omega);replace t3:=t3 K (by omega);replace t4:=t4 K (by omega);replace t5:=t5 K (by omega);refine Ca.bD (n:=K+300) ?_;rw[av rfl (k1012:E1.fn _=_) rfl];have h1:¬ sy<1/\¬ 32<sy/\0<=sy:=by
  unfold kZ at hs;simp only[Bool.and_eq_true,decide_eq_true_eq]at hs;omega
 obtain⟨h1,h2,h3⟩:=h1;have h4:¬ sy<0:=by omega
 obtain⟨qa,qb,qc,qd,qf,qg,qh,rfl⟩:=hA;obtain⟨s,l1,l2,c,b,u,p,q,ew⟩:=w.aF;obtain⟨xs,YY,YZ,xc,xb,xu,xp,xq,ex⟩:=(e x).aF;obtain⟨zs,yP,yQ,zc,zb,zu,zp,zq,ez⟩:=(e z).aF;obtain⟨os,ol1,ol2,oc,ob,ou,op,oq,eo⟩:=(e o).aF;have hxd:(if ck then w.d else(e z).d)=(e x).d:=by rw[<-hx];split<;>rfl
 unfold jf at t5;simp only[List.map_cons,List.map_nil]at t5;rw[ew,ez,ex]at hxd;simp only[ew,ex,ez,eo]at t2 t3 t4 t5 ⊢;clear ew ex ez eo hx hc hz ho hN;unfold fA aP wD at*;generalize LK .i64 qb=l8,LK .i64 ps=l9 at*;cases ck
 ·simp only[Bool.false_eq_true,if_false,D.a.injEq,List.cons.injEq,D.v.injEq,Value.bool.injEq,D.s.injEq,Value.int.injEq,true_and,and_true]at hxd;obtain⟨rfl,rfl,rfl,rfl,rfl,rfl,rfl,rfl⟩:=hxd;simp -implicitDefEqProofs[f1012,t1,t2,t3,t4,t5,h1,h2,h3,h4,gZ,checked,jl,xL,Ref.abs]
 ·simp only[if_true,D.a.injEq,List.cons.injEq,D.v.injEq,Value.bool.injEq,D.s.injEq,Value.int.injEq,true_and,and_true]at hxd;obtain⟨rfl,rfl,rfl,rfl,rfl,rfl,rfl,rfl⟩:=hxd;simp -implicitDefEqProofs[f1012,t1,t2,t3,t4,t5,h1,h2,h3,h4,gZ,checked,jl,xL,Ref.abs]
theorem Ox (sy sb:Int)(w:W)(x o z:α)(r:FV × Option (List ae))(A:D)(hr:r=(.d (.t [A,.v (.int .i64 0)]),none))(hA:∃ a b c d f g h,A=fA a b c d f g h)(hv:aH kk ps=true)(hs:kZ sy 1 32=true)(hb:kZ sb 0 sy=true)(hb0:sb≠0)(ck:Bool)(hc:Ca E1 18 [.d (aP kk ps),.d w.d] (.d (.v (.bool ck)),none))(hx:(if ck then w else e z)=e x)
  (hz:Ca E1 26 [.d (aP kk ps)] (.d (e z).d,none)) (ho:Ca E1 27 [.d (aP kk ps)] (.d (e o).d,none)) (hN:Ca E1 1024 [.d (jf kk ps sy 2 [e o,e z] [e z,e o] e [⟨0,sb,1,x⟩])] r) :
  Ca E1 1012 [.d (aP kk ps),.d (.v (.int .i64 sy)),.d (.v (.int .i64 sb)),.d w.d] r:=by
 subst hr;obtain⟨N1,t1⟩:=(Ca.dW (Ca.bD (fZ 0 kk ps))).any;rw[hv]at t1;obtain⟨N2,t2⟩:=hc.any;obtain⟨N3,t3⟩:=hz.any;obtain⟨N4,t4⟩:=ho.any;obtain⟨N5,t5⟩:=hN.any;obtain⟨K,hK⟩:∃ K,K=N1+N2+N3+N4+N5:=⟨_,rfl⟩
 replace t1:=t1 K (by omega);replace t2:=t2 K (by omega);replace t3:=t3 K (by omega);replace t4:=t4 K (by omega);replace t5:=t5 K (by omega);refine Ca.bD (n:=K+300) ?_;rw[av rfl (k1012:E1.fn _=_) rfl];have h1:¬ sy<1/\¬ 32<sy/\¬ sb<0/\¬ sy<sb:=by
  unfold kZ at hs hb;simp only[Bool.and_eq_true,decide_eq_true_eq]at hs hb;omega
 obtain⟨h1,h2,h3,h4⟩:=h1;have h5:(sb==0)=false:=by simpa using hb0
 obtain⟨qa,qb,qc,qd,qf,qg,qh,rfl⟩:=hA;obtain⟨s,l1,l2,c,b,u,p,q,ew⟩:=w.aF;obtain⟨xs,YY,YZ,xc,xb,xu,xp,xq,ex⟩:=(e x).aF;obtain⟨zs,yP,yQ,zc,zb,zu,zp,zq,ez⟩:=(e z).aF;obtain⟨os,ol1,ol2,oc,ob,ou,op,oq,eo⟩:=(e o).aF;have hxd:(if ck then w.d else(e z).d)=(e x).d:=by rw[<-hx];split<;>rfl
 unfold jf at t5;simp only[List.map_cons,List.map_nil,Ar.d]at t5;rw[ew,ez,ex]at hxd;simp only[ew,ex,ez,eo]at t2 t3 t4 t5 ⊢;clear ew ex ez eo hx hc hz ho hN;unfold fA aP wD at*;simp only[D.cells]at t5;generalize LK .i64 qb=l8,LK .i64 ps=l9 at*;cases ck
 ·simp only[Bool.false_eq_true,if_false,D.a.injEq,List.cons.injEq,D.v.injEq,Value.bool.injEq,D.s.injEq,Value.int.injEq,true_and,and_true]at hxd;obtain⟨rfl,rfl,rfl,rfl,rfl,rfl,rfl,rfl⟩:=hxd;simp -implicitDefEqProofs[f1012,t1,t2,t3,t4,t5,h1,h2,h3,h4,h5,gZ,checked,jl,xL,Ref.abs]
 ·simp only[if_true,D.a.injEq,List.cons.injEq,D.v.injEq,Value.bool.injEq,D.s.injEq,Value.int.injEq,true_and,and_true]at hxd;obtain⟨rfl,rfl,rfl,rfl,rfl,rfl,rfl,rfl⟩:=hxd;simp -implicitDefEqProofs[f1012,t1,t2,t3,t4,t5,h1,h2,h3,h4,h5,gZ,checked,jl,xL,Ref.abs]
end
end Fi.S
