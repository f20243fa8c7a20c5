import Derived.Test.YtckkhcnfdmlabaaGreatDoorCT
set_option linter.unusedVariables false
set_option linter.unusedSimpArgs false
namespace Fi.S
open Go Fi
set_option maxHeartbeats 8000000
set_option maxRecDepth 10000
section
variable {α:Type} {e:α->W} {kk:Int} {ps:List Int}
theorem VF (sy sb:Int)(w:W)(hv:aH kk ps=false):Ca E1 1012 [.d (aP kk ps),.d (.v (.int .i64 sy)),.d (.v (.int .i64 sb)),.d w.d] (.d (.t [zF,.v (.int .i64 6)]),none):=by
 obtain⟨N,t⟩:=(Ca.dW (Ca.bD (fZ 0 kk ps))).get;rw[hv]at t;refine Ca.bD (n:=N+200) ?_;rw[av rfl (k1012:E1.fn _=_) rfl];obtain⟨s,l1,l2,c,b,u,p,q,ew⟩:=w.aF;rw[ew];unfold zF fA aP wD at*;rw[show LK .i64 []=[] from rfl];generalize LK .i64 ps=l9 at*;simp -implicitDefEqProofs[f1012,t,gZ]
theorem QI (sy sb:Int)(w:W)(hv:aH kk ps=true)(h:kZ sy 1 32=false):Ca E1 1012 [.d (aP kk ps),.d (.v (.int .i64 sy)),.d (.v (.int .i64 sb)),.d w.d] (.d (.t [zF,.v (.int .i64 1)]),none):=by
 obtain⟨N,t⟩:=(Ca.dW (Ca.bD (fZ 0 kk ps))).get;rw[hv]at t;refine Ca.bD (n:=N+200) ?_;rw[av rfl (k1012:E1.fn _=_) rfl];obtain⟨s,l1,l2,c,b,u,p,q,ew⟩:=w.aF;rw[ew];unfold zF fA aP wD at*;rw[show LK .i64 []=[] from rfl];generalize LK .i64 ps=l9 at*
 by_cases h1:sy<1
 ·simp -implicitDefEqProofs[f1012,t,gZ,h1]
 ·have h2:32<sy:=by
   unfold kZ at h;simp only[Bool.and_eq_false_iff,decide_eq_false_iff_not]at h;omega
  simp -implicitDefEqProofs[f1012,t,gZ,h1,h2]
theorem QJ (sy sb:Int)(w:W)(hv:aH kk ps=true)(hs:kZ sy 1 32=true)(h:kZ sb 0 sy=false):Ca E1 1012 [.d (aP kk ps),.d (.v (.int .i64 sy)),.d (.v (.int .i64 sb)),.d w.d] (.d (.t [zF,.v (.int .i64 9)]),none):=by
 obtain⟨N,t⟩:=(Ca.dW (Ca.bD (fZ 0 kk ps))).get;rw[hv]at t;refine Ca.bD (n:=N+200) ?_;rw[av rfl (k1012:E1.fn _=_) rfl];obtain⟨s,l1,l2,c,b,u,p,q,ew⟩:=w.aF;rw[ew];unfold zF fA aP wD at*;rw[show LK .i64 []=[] from rfl];generalize LK .i64 ps=l9 at*;have h1:¬ sy<1/\¬ 32<sy:=by
  unfold kZ at hs;simp only[Bool.and_eq_true,decide_eq_true_eq]at hs;omega
 obtain⟨h1,h2⟩:=h1
 by_cases h3:sb<0
 ·simp -implicitDefEqProofs[f1012,t,gZ,h1,h2,h3]
 ·have h4:sy<sb:=by
   unfold kZ at h;simp only[Bool.and_eq_false_iff,decide_eq_false_iff_not]at h;omega
  simp -implicitDefEqProofs[f1012,t,gZ,h1,h2,h3,h4]
theorem J6 (sy:Int)(w:W)(x o z:α)(r:FV × Option (List ae))(A:D)(hr:r=(.d (.t [A,.v (.int .i64 0)]),none))(hA:∃ a b c d f g h,A=fA a b c d f g h)(hv:aH kk ps=true)(hs:kZ sy 1 32=true)(ck:Bool)(hc:Ca E1 18 [.d (aP kk ps),.d w.d] (.d (.v (.bool ck)),none))(hx:(if ck then w else e z)=e x)
  (hz:Ca E1 26 [.d (aP kk ps)] (.d (e z).d,none)) (ho:Ca E1 27 [.d (aP kk ps)] (.d (e o).d,none)) (hN:Ca E1 1024 [.d (jf kk ps sy 1 [e x] [e o] e [])] r) :
  Ca E1 1012 [.d (aP kk ps),.d (.v (.int .i64 sy)),.d (.v (.int .i64 0)),.d w.d] r:=by
 subst hr;obtain⟨N1,t1⟩:=(Ca.dW (Ca.bD (fZ 0 kk ps))).any;rw[hv]at t1;obtain⟨N2,t2⟩:=hc.any;obtain⟨N3,t3⟩:=hz.any;obtain⟨N4,t4⟩:=ho.any;obtain⟨N5,t5⟩:=hN.any;obtain⟨K,hK⟩:∃ K,K=N1+N2+N3+N4+N5:=⟨_,rfl⟩
 replace t1:=t1 K (by omega);replace t2:=t2 K (by omega);replace t3:=t3 K (by omega);replace t4:=t4 K (by omega);replace t5:=t5 K (by omega);refine Ca.bD (n:=K+300) ?_;rw[av rfl (k1012:E1.fn _=_) rfl];have h1:¬ sy<1/\¬ 32<sy/\0<=sy:=by
  unfold kZ at hs;simp only[Bool.and_eq_true,decide_eq_true_eq]at hs;omega
 obtain⟨h1,h2,h3⟩:=h1;have h4:¬ sy<0:=by omega
 obtain⟨qa,qb,qc,qd,qf,qg,qh,rfl⟩:=hA;obtain⟨s,l1,l2,c,b,u,p,q,ew⟩:=w.aF;obtain⟨xs,YY,YZ,xc,xb,xu,xp,xq,ex⟩:=(e x).aF;obtain⟨zs,yP,yQ,zc,zb,zu,zp,zq,ez⟩:=(e z).aF;obtain⟨os,ol1,ol2,oc,ob,ou,op,oq,eo⟩:=(e o).aF;have hxd:(if ck then w.d else(e z).d)=(e x).d:=by rw[<-hx];split<;>rfl
 unfold jf at t5;simp only[List.map_cons,List.map_nil]at t5;rw[ew,ez,ex]at hxd;simp only[ew,ex,ez,eo]at t2 t3 t4 t5 ⊢;clear ew ex ez eo hx hc hz ho hN;unfold fA aP wD at*;generalize LK .i64 qb=l8,LK .i64 ps=l9 at*;cases ck
 ·simp only[Bool.false_eq_true,if_false,D.a.injEq,List.cons.injEq,D.v.injEq,Value.bool.injEq,D.s.injEq,Value.int.injEq,true_and,and_true]at hxd;obtain⟨rfl,rfl,rfl,rfl,rfl,rfl,rfl,rfl⟩:=hxd;simp -implicitDefEqProofs[f1012,t1,t2,t3,t4,t5,h1,h2,h3,h4,gZ,checked,jl,xL,Ref.abs]
 ·simp only[if_true,D.a.injEq,List.cons.injEq,D.v.injEq,Value.bool.injEq,D.s.injEq,Value.int.injEq,true_and,and_true]at hxd;obtain⟨rfl,rfl,rfl,rfl,rfl,rfl,rfl,rfl⟩:=hxd;simp -implicitDefEqProofs[f1012,t1,t2,t3,t4,t5,h1,h2,h3,h4,gZ,checked,jl,xL,Ref.abs]
theorem Ox (sy sb:Int)(w:W)(x o z:α)(r:FV × Option (List ae))(A:D)(hr:r=(.d (.t [A,.v (.int .i64 0)]),none))(hA:∃ a b c d f g h,A=fA a b c d f g h)(hv:aH kk ps=true)(hs:kZ sy 1 32=true)(hb:kZ sb 0 sy=true)(hb0:sb≠0)(ck:Bool)(hc:Ca E1 18 [.d (aP kk ps),.d w.d] (.d (.v (.bool ck)),none))(hx:(if ck then w else e z)=e x)
  (hz:Ca E1 26 [.d (aP kk ps)] (.d (e z).d,none)) (ho:Ca E1 27 [.d (aP kk ps)] (.d (e o).d,none)) (hN:Ca E1 1024 [.d (jf kk ps sy 2 [e o,e z] [e z,e o] e [⟨0,sb,1,x⟩])] r) :
  Ca E1 1012 [.d (aP kk ps),.d (.v (.int .i64 sy)),.d (.v (.int .i64 sb)),.d w.d] r:=by
 subst hr;obtain⟨N1,t1⟩:=(Ca.dW (Ca.bD (fZ 0 kk ps))).any;rw[hv]at t1;obtain⟨N2,t2⟩:=hc.any;obtain⟨N3,t3⟩:=hz.any;obtain⟨N4,t4⟩:=ho.any;obtain⟨N5,t5⟩:=hN.any;obtain⟨K,hK⟩:∃ K,K=N1+N2+N3+N4+N5:=⟨_,rfl⟩
 replace t1:=t1 K (by omega);replace t2:=t2 K (by omega);replace t3:=t3 K (by omega);replace t4:=t4 K (by omega);replace t5:=t5 K (by omega);refine Ca.bD (n:=K+300) ?_;rw[av rfl (k1012:E1.fn _=_) rfl];have h1:¬ sy<1/\¬ 32<sy/\¬ sb<0/\¬ sy<sb:=by
  unfold kZ at hs hb;simp only[Bool.and_eq_true,decide_eq_true_eq]at hs hb;omega
 obtain⟨h1,h2,h3,h4⟩:=h1;have h5:(sb==0)=false:=by simpa using hb0
 obtain⟨qa,qb,qc,qd,qf,qg,qh,rfl⟩:=hA;obtain⟨s,l1,l2,c,b,u,p,q,ew⟩:=w.aF;obtain⟨xs,YY,YZ,xc,xb,xu,xp,xq,ex⟩:=(e x).aF;obtain⟨zs,yP,yQ,zc,zb,zu,zp,zq,ez⟩:=(e z).aF;obtain⟨os,ol1,ol2,oc,ob,ou,op,oq,eo⟩:=(e o).aF;have hxd:(if ck then w.d else(e z).d)=(e x).d:=by rw[<-hx];split<;>rfl
 unfold jf at t5;simp only[List.map_cons,List.map_nil,Ar.d]at t5;rw[ew,ez,ex]at hxd;simp only[ew,ex,ez,eo]at t2 t3 t4 t5 ⊢;clear ew ex ez eo hx hc hz ho hN;unfold fA aP wD at*;simp only[D.cells]at t5;generalize LK .i64 qb=l8,LK .i64 ps=l9 at*;cases ck
 ·simp only[Bool.false_eq_true,if_false,D.a.injEq,List.cons.injEq,D.v.injEq,Value.bool.injEq,D.s.injEq,Value.int.injEq,true_and,and_true]at hxd;obtain⟨rfl,rfl,rfl,rfl,rfl,rfl,rfl,rfl⟩:=hxd;simp -implicitDefEqProofs[f1012,t1,t2,t3,t4,t5,h1,h2,h3,h4,h5,gZ,checked,jl,xL,Ref.abs]
 ·simp only[if_true,D.a.injEq,List.cons.injEq,D.v.injEq,Value.bool.injEq,D.s.injEq,Value.int.injEq,true_and,and_true]at hxd;obtain⟨rfl,rfl,rfl,rfl,rfl,rfl,rfl,rfl⟩:=hxd;simp -implicitDefEqProofs[f1012,t1,t2,t3,t4,t5,h1,h2,h3,h4,h5,gZ,checked,jl,xL,Ref.abs]
end
section
variable {α:Type} {e:α->W} {kk:Int} {ps:List Int}
theorem VG (sy sb:Int)(w:W):(aH kk ps=false->Ca E1 1013 [.d (aP kk ps),.d (.v (.int .i64 sy)),.d (.v (.int .i64 sb)),.d w.d] (.d (.t [zF,.v (.int .i64 6)]),none)) /\
  (aH kk ps=true->kZ sy 1 32=false->Ca E1 1013 [.d (aP kk ps),.d (.v (.int .i64 sy)),.d (.v (.int .i64 sb)),.d w.d] (.d (.t [zF,.v (.int .i64 1)]),none)) /\
  (aH kk ps=true->kZ sy 1 32=true->kZ sb 0 sy=false->Ca E1 1013 [.d (aP kk ps),.d (.v (.int .i64 sy)),.d (.v (.int .i64 sb)),.d w.d] (.d (.t [zF,.v (.int .i64 9)]),none)):=by
 obtain⟨N,t⟩:=(Ca.dW (Ca.bD (dB 0 kk ps))).get;have t2:=fun m=>mK m sy
 have t3:=fun m=>runIx m sb 0 sy
 obtain⟨s,l1,l2,c,b,u,p,q,ew⟩:=w.aF;rw[ew];generalize kZ sy 1 32=b2,kZ sb 0 sy=b3,aH kk ps=b1 at*;unfold zF fA aP wD at*;rw[show LK .i64 []=[] from rfl];generalize LK .i64 ps=l9 at*;refine⟨fun h => ?_,fun h h2 => ?_,fun h h2 h3 => ?_⟩
 ·subst h;refine Ca.bD (n:=N+200) ?_;rw[av rfl (k1013:E1.fn _=_) rfl];simp -implicitDefEqProofs[f1013,t,gZ]
 ·subst h;subst h2;refine Ca.bD (n:=N+200) ?_;rw[av rfl (k1013:E1.fn _=_) rfl];simp -implicitDefEqProofs[f1013,t,t2,gZ]
 ·subst h;subst h2;subst h3;refine Ca.bD (n:=N+200) ?_;rw[av rfl (k1013:E1.fn _=_) rfl];simp -implicitDefEqProofs[f1013,t,t2,t3,gZ]
theorem QK (sy:Int)(w:W)(x o z:α)(hl:ps.length<=1000000)(hv:aH kk ps=true)(hs:kZ sy 1 32=true)(hx:Ca E1 53 [.d (aP kk ps),.d w.d] (.d (e x).d,none))
  (hz:Ca E1 35 [.d (aP kk ps)] (.d (e z).d,none)) (ho:Ca E1 20 [.d (aP kk ps)] (.d (e o).d,none)) :
  Ca E1 1013 [.d (aP kk ps),.d (.v (.int .i64 sy)),.d (.v (.int .i64 0)),.d w.d] (.d (.t [jf kk ps sy 1 [e x] [e o] e ([]:List (Ar α)),.v (.int .i64 0)]),none):=by
 obtain⟨N1,t1⟩:=(Ca.dW (Ca.bD (dB 0 kk ps))).any;rw[hv]at t1;have u2:=fun m=>mK m sy
 have u3:=fun m=>runIx m 0 0 sy
 have hb:kZ 0 0 sy=true:=by
  unfold kZ at*;simp only[Bool.and_eq_true,decide_eq_true_eq]at*;omega
 rw[hs]at u2;rw[hb]at u3;obtain⟨N2,t2⟩:=hx.any;obtain⟨N3,t3⟩:=hz.any;obtain⟨N4,t4⟩:=ho.any;obtain⟨N5,t5⟩:=(J3 kk ps hl).any;obtain⟨K,hK⟩:∃ K,K=N1+N2+N3+N4+N5:=⟨_,rfl⟩
 replace t1:=t1 K (by omega);replace t2:=t2 K (by omega);replace t3:=t3 K (by omega);replace t4:=t4 K (by omega);replace t5:=t5 K (by omega);refine Ca.bD (n:=K+300) ?_;rw[av rfl (k1013:E1.fn _=_) rfl];obtain⟨s,l1,l2,c,b,u,p,q,ew⟩:=w.aF;obtain⟨xs,YY,YZ,xc,xb,xu,xp,xq,ex⟩:=(e x).aF;obtain⟨zs,yP,yQ,zc,zb,zu,zp,zq,ez⟩:=(e z).aF;obtain⟨os,ol1,ol2,oc,ob,ou,op,oq,eo⟩:=(e o).aF;unfold jf;simp only[List.map_cons,List.map_nil];simp only[ew,ex,ez,eo]at t2 t3 t4 ⊢;unfold fA aP wD at*;generalize LK .i64 ps=l9 at*;clear ew ex ez eo hx hz ho;simp -implicitDefEqProofs[f1013,t1,t2,t3,t4,t5,u2,u3,gZ]
theorem VH (sy sb:Int)(w:W)(x o z:α)(A:D)(hA:∃ a b c d f g h,A=fA a b c d f g h)(hv:aH kk ps=true)(hs:kZ sy 1 32=true)(hb:kZ sb 0 sy=true)(hb0:sb≠0)(hx:Ca E1 53 [.d (aP kk ps),.d w.d] (.d (e x).d,none))
  (hz:Ca E1 35 [.d (aP kk ps)] (.d (e z).d,none)) (ho:Ca E1 20 [.d (aP kk ps)] (.d (e o).d,none)) (hF:Ca E1 1044 [.d (jf kk ps sy 2 [e o,e z] [e z,e o] e [⟨0,sb,1,x⟩])] (.d A,none)) :
  Ca E1 1013 [.d (aP kk ps),.d (.v (.int .i64 sy)),.d (.v (.int .i64 sb)),.d w.d] (.d (.t [A,.v (.int .i64 0)]),none):=by
 obtain⟨N1,t1⟩:=(Ca.dW (Ca.bD (dB 0 kk ps))).any;rw[hv]at t1;have u2:=fun m=>mK m sy
 have u3:=fun m=>runIx m sb 0 sy
 rw[hs]at u2;rw[hb]at u3;obtain⟨N2,t2⟩:=hx.any;obtain⟨N3,t3⟩:=hz.any;obtain⟨N4,t4⟩:=ho.any;obtain⟨N5,t5⟩:=hF.any;obtain⟨K,hK⟩:∃ K,K=N1+N2+N3+N4+N5:=⟨_,rfl⟩
 replace t1:=t1 K (by omega);replace t2:=t2 K (by omega);replace t3:=t3 K (by omega);replace t4:=t4 K (by omega);replace t5:=t5 K (by omega);have h5:(sb==0)=false:=by simpa using hb0
 refine Ca.bD (n:=K+300) ?_;rw[av rfl (k1013:E1.fn _=_) rfl];obtain⟨qa,qb,qc,qd,qf,qg,qh,rfl⟩:=hA;obtain⟨s,l1,l2,c,b,u,p,q,ew⟩:=w.aF;obtain⟨xs,YY,YZ,xc,xb,xu,xp,xq,ex⟩:=(e x).aF;obtain⟨zs,yP,yQ,zc,zb,zu,zp,zq,ez⟩:=(e z).aF;obtain⟨os,ol1,ol2,oc,ob,ou,op,oq,eo⟩:=(e o).aF;unfold jf at t5;simp only[List.map_cons,List.map_nil,Ar.d]at t5;simp only[ew,ex,ez,eo]at t2 t3 t4 t5 ⊢;clear ew ex ez eo hx hz ho hF;unfold fA aP wD at*;simp only[D.cells]at t5;generalize LK .i64 qb=l8,LK .i64 ps=l9 at*;simp -implicitDefEqProofs[f1013,t1,t2,t3,t4,t5,u2,u3,h5,gZ]
end
end Fi.S
noncomputable section
namespace Fi.S
open Go Fi
set_option maxHeartbeats 8000000
set_option maxRecDepth 10000
variable {α:Type} {e:α->W}
theorem Zy {pl:α->α->α}{fJ:α->Bool}(a:Ar α):∀ b ∈ lK pl fJ [a],b=a:=by
 intro b hb;unfold lK dS at hb;have:=(List.mem_filter.1 hb).1;simpa[bY] using this
theorem Hu {kk:Int}{ps:List Int}{w:W}(ht:w.nA)(hl:w.bC=true)(hps:ps.length<=6)(sy sb:Int):∃ r,Both r sy sb w (aP kk ps):=by
 have sZ:Ca E1 1014 [.d zF,.d zF] (.d (.v (.bool true)),none):=by
  rw[VE (bA 1)];exact nH 0 [] 0 0 [] [] ([]:List (Ar (List Sv))) (by simp) (by simp) (by simp) (by simp) (by simp) (by simp) (by simp)
 obtain⟨b1,b2,b3⟩:=VG (kk:=kk) (ps:=ps) sy sb w
 by_cases hv:aH kk ps=true
 ·by_cases hs:kZ sy 1 32=true
  ·by_cases hb:kZ sb 0 sy=true
   ·have hW:=acY hv;obtain⟨x,hx,hxe,hxt⟩:=MI hv ht hl;have hc:=Ca.dW (sK kk ps w (by omega) (o9 w ht hl));obtain⟨ho,ho'⟩:=Oi hv;have gz:=DF hv;have go:=Qv hv;have ok:∀ {y},om kk ps 1 y->(bA kk y).OK:=fun h=>vC hv (by omega) h.2
    have ck:∀ {y},om kk ps 1 y->bO kk ps (bA kk y)=true:=fun h=>tJ hv h.2
    by_cases h0:sb=0
    ·subst h0;have hN:=iN hW sy 1 [x] [bS kk ps] [] (by omega) (by simp) (by simp) (by simp) (by simp) (by simpa using hx) (by simpa using go) (by simp) (by
      have:=jg (e:=bA kk) kk ps sy 1 [bA kk x] [bA kk (bS kk ps)] [] (by omega) (by simp) (by simp) (by simp) (by simpa using ok hx) (by simpa using ok go) (by simp);rw[show rP kk ps sy 1 [bA kk x] [bA kk (bS kk ps)] (bA kk) []=true by
       unfold kZ at hs;simp only[Bool.and_eq_true,decide_eq_true_eq]at hs;simp[rP,vD,hv,ck hx,ck go,hs]]at this
      exact this)
     rw[show lK (gV (gW kk ps)) (A8 kk ps) ([]:List (Ar (List Sv)))=[] from rfl]at hN;have hl1:=J6 (e:=bA kk) sy w x (bS kk ps) (aS kk ps) _ _ rfl ⟨_,_,_,_,_,_,_,rfl⟩ hv hs _ hc hxe hW.zero ho hN;have hl2:=QK (e:=bA kk) sy w x (bS kk ps) (aS kk ps) (by omega) hv hs hxt (eQ hv) ho';refine⟨_,_,0,⟨_,_,_,_,_,_,_,rfl⟩,rfl,hl1,hl2,?_⟩;exact nH kk ps sy 1 [bA kk x] [bA kk (bS kk ps)] [] (by omega) (by simp) (by simp) (by simp) (by simpa using ok hx) (by simpa using ok go) (by simp)
    ·have hN:=iN hW sy 2 [bS kk ps,aS kk ps] [aS kk ps,bS kk ps] [⟨0,sb,1,x⟩] (by omega) (by simp) (by simp) (by simp) (by simp) (by simp[go,gz]) (by simp[go,gz]) (by simpa using hx) (by
      have:=jg (e:=bA kk) kk ps sy 2 [bA kk (bS kk ps),bA kk (aS kk ps)] [bA kk (aS kk ps),bA kk (bS kk ps)] [⟨0,sb,1,x⟩] (by omega) (by simp) (by simp) (by simp) (by simp[ok go,ok gz]) (by simp[ok go,ok gz]) (by simpa using ok hx);rw[show rP kk ps sy 2 [bA kk (bS kk ps),bA kk (aS kk ps)] [bA kk (aS kk ps),bA kk (bS kk ps)] (bA kk) [⟨0,sb,1,x⟩]=true by
       unfold kZ at hs hb;simp only[Bool.and_eq_true,decide_eq_true_eq]at hs hb;simp[rP,vD,hv,ck hx,ck go,ck gz,hs,hb,nX,uL]]at this
      exact this)
     have hl1:=Ox (e:=bA kk) sy sb w x (bS kk ps) (aS kk ps) _ _ rfl ⟨_,_,_,_,_,_,_,rfl⟩ hv hs hb h0 _ hc hxe hW.zero ho hN;have hF:=Ht hW sy 2 [bS kk ps,aS kk ps] [aS kk ps,bS kk ps] [⟨0,sb,1,x⟩] (by omega) (by simp) (by simp) (by simp) (by simp) (by simp[go,gz]) (by simp[go,gz]) (by simpa using hx);have hl2:=VH (e:=bA kk) sy sb w x (bS kk ps) (aS kk ps) _ ⟨_,_,_,_,_,_,_,rfl⟩ hv hs hb h0 hxt (eQ hv) ho' hF;refine⟨_,_,0,⟨_,_,_,_,_,_,_,rfl⟩,rfl,hl1,hl2,?_⟩;refine nH kk ps sy 2 _ _ _ (by omega) (by simp) (by simp) (Nat.le_trans (zG _ 1 (by simp)) (by omega)) (by simp[ok go,ok gz]) (by simp[ok go,ok gz]) (fun a ha => ?_);rw[Zy _ a ha];exact ok hx
   ·simp only[Bool.not_eq_true]at hb;exact⟨_,zF,9,⟨_,_,_,_,_,_,_,rfl⟩,rfl,QJ sy sb w hv hs hb,b3 hv hs hb,sZ⟩
  ·simp only[Bool.not_eq_true]at hs;exact⟨_,zF,1,⟨_,_,_,_,_,_,_,rfl⟩,rfl,QI sy sb w hv hs,b2 hv hs,sZ⟩
 ·simp only[Bool.not_eq_true]at hv;exact⟨_,zF,6,⟨_,_,_,_,_,_,_,rfl⟩,rfl,VF sy sb w hv,b1 hv,sZ⟩
theorem VI (kk:Int)(ps:List Int)(sy sb:Int)(w:W)(ht:w.nA)(aw:Ca E1 1011 [] (.d (.v (.bool true)),none)):Ca E1 1003 [.d (aP kk ps),.d (.v (.int .i64 sy)),.d (.v (.int .i64 sb)),.d w.d] (.d (.v (.bool true)),none):=by
 obtain⟨N1,t1⟩:=(Ca.dW (Ca.bD (ve 0 kk ps))).any;obtain⟨N2,t2⟩:=(Ca.dW (xz w)).any;obtain⟨N3,t3⟩:=aw.any
 by_cases h:ps.length<=6/\w.bC=true
 ·obtain⟨r,A,er,⟨qa,qb,qc,qd,qf,qg,qh,rfl⟩,rfl,h1,h2,h3⟩:=Hu (kk:=kk) ht h.2 h.1 sy sb;obtain⟨N4,t4⟩:=h1.any;obtain⟨N5,t5⟩:=h2.any;obtain⟨N6,t6⟩:=h3.any;obtain⟨K,hK⟩:∃ K,K=N1+N2+N3+N4+N5+N6:=⟨_,rfl⟩
  replace t1:=t1 K (by omega);replace t2:=t2 K (by omega);replace t3:=t3 K (by omega);replace t4:=t4 K (by omega);replace t5:=t5 K (by omega);replace t6:=t6 K (by omega);rw[show decide ((ps.length:Int)<=6)=true from decide_eq_true (by omega)]at t1;rw[h.2]at t2;refine Ca.bD (n:=K+300) ?_;rw[av rfl (k1003:E1.fn _=_) rfl];obtain⟨s,l1,l2,c,b,u,p,q,ew⟩:=w.aF;simp only[ew]at t2 t4 t5 ⊢;clear ew h1 h2 h3 h ht aw hK;unfold fA aP wD at*;generalize LK .i64 qb=l8,LK .i64 ps=l9 at*;simp -implicitDefEqProofs[f1003,t1,t2,t3,t4,t5,t6,gZ]
 ·obtain⟨K,hK⟩:∃ K,K=N1+N2+N3:=⟨_,rfl⟩
  replace t1:=t1 K (by omega);replace t2:=t2 K (by omega);replace t3:=t3 K (by omega);refine Ca.bD (n:=K+300) ?_;rw[av rfl (k1003:E1.fn _=_) rfl];obtain⟨s,l1,l2,c,b,u,p,q,ew⟩:=w.aF;simp only[ew]at t2 ⊢;have hd:decide ((ps.length:Int)<=6)=true->w.bC=false:=by
   intro h1;simp only[decide_eq_true_eq]at h1;cases hw:w.bC with
   | true=>exact absurd ⟨by omega,hw⟩ h
   | false=>rfl
  generalize decide ((ps.length:Int)<=6)=b1 at*;generalize w.bC=b2 at*;clear ew h ht aw hK;unfold aP wD at*;generalize LK .i64 ps=l9 at*;cases b1
  ·simp -implicitDefEqProofs[f1003,t1,t2,t3,gZ]
  ·obtain rfl:=hd rfl;simp -implicitDefEqProofs[f1003,t1,t2,t3,gZ]
end Fi.S
