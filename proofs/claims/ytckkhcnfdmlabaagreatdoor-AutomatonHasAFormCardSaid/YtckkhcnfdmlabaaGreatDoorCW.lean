import Derived.Test.YtckkhcnfdmlabaaGreatDoorCX
set_option linter.unusedVariables false
set_option linter.unusedSimpArgs false
noncomputable section
namespace Fi.S
open Go Fi
set_option maxHeartbeats 8000000
set_option maxRecDepth 10000
section ah
variable {α:Type} {e:α->W} {kk:Int} {ps:List Int} {pl:α->α->α} {z:W} {fJ:α->Bool} {G:Nat->α->Prop} {m:Nat}
end ah
section au
variable {a b:Au} (ha:a.Lit) (hb:b.Lit)
include ha
end au
theorem Au.QQ (a:Au):a.same a=true:=xV ..
theorem J_ {a:Au}(ha:a.Lit):∃ (A:D) (er:Int),(∃ a b c d f g h,A=fA a b c d f g h)/\Ca E1 1024 [.d a.d] (.d (.t [A,.v (.int .i64 er)]),none)/\Ca E1 1025 [.d a.d] (.d (.t [A,.v (.int .i64 er)]),none)/\Ca E1 1014 [.d A,.d A] (.d (.v (.bool true)),none):=by
 obtain⟨v1,v2⟩:=ha.jg;cases hv:a.valid with
 | false =>
  rw[hv]at v1 v2;refine⟨zF,4,⟨_,_,_,_,_,_,_,rfl⟩,EI _ _ _ _ _ _ _ v1,DK _ _ _ _ _ _ _ v2,?_⟩;rw[VE (bA 1)];exact nH 0 [] 0 0 [] [] ([]:List (Ar (List Sv))) (by simp) (by simp) (by simp) (by simp) (by simp) (by simp) (by simp)
 | true =>
  rw[hv]at v1 v2;have hp:=ha.ps;have h16:=ha.ah.1;have hin:=ha.aN.1;have hfi:=ha.fin.1;unfold Au.valid rP vD at hv;simp only[Bool.and_eq_true,decide_eq_true_eq,List.all_eq_true]at hv;obtain⟨⟨hr,_⟩,hc3,hc1,hc2⟩:=hv;obtain⟨xs,e1,g1⟩:=yh hr a.aN (fun w hw=>⟨(ha.aN.2 w hw).1,(ha.aN.2 w hw).2,hc1 w hw⟩);obtain⟨ys,e2,g2⟩:=yh hr a.fin (fun w hw=>⟨(ha.fin.2 w hw).1,(ha.fin.2 w hw).2,hc2 w hw⟩);obtain⟨zs,e3,hz,g3⟩:=Hz hr a.ah (fun x hx=>⟨(ha.ah.2 x hx).1,(ha.ah.2 x hx).2,by
   have:=hc3 x hx;unfold nX at this;simp only[Bool.and_eq_true]at this;exact this.2.2.2.2⟩)
  have hd:a.d=jf a.kk a.ps a.sy a.st (xs.map (bA a.kk)) (ys.map (bA a.kk)) (bA a.kk) zs:=by
   unfold Au.d jf;rw[e3,e1,e2]
  have hxl:xs.length=a.aN.length:=by rw[e1];simp
  have hyl:ys.length=a.fin.length:=by rw[e2];simp
  rw[hd]at v1 v2 ⊢;have hW:=acY hr;have hN:=iN hW a.sy a.st xs ys zs (by omega) (by omega) (by omega) (by omega) (by omega) g1 g2 g3 v1;have hF:=Ht hW a.sy a.st xs ys zs (by omega) (by omega) (by omega) (by omega) (by omega) g1 g2 g3;have ok:∀ {y},om a.kk a.ps 1 y->(bA a.kk y).OK:=fun h=>vC hr (by omega) h.2
  refine⟨_,0,⟨_,_,_,_,_,_,_,rfl⟩,hN,EJ _ _ _ _ _ _ _ _ ⟨_,_,_,_,_,_,_,rfl⟩ v2 hF,?_⟩;refine nH a.kk a.ps a.sy a.st _ _ _ (by omega) (by simp;omega) (by simp;omega) (Nat.le_trans (zG _ 16 (by omega)) (by omega)) (fun w hw => ?_) (fun w hw => ?_) (fun x hx => ?_)
  ·obtain⟨y,hy,rfl⟩:=List.mem_map.1 hw;exact ok (g1 y hy)
  ·obtain⟨y,hy,rfl⟩:=List.mem_map.1 hw;exact ok (g2 y hy)
  ·exact vC hr (by omega) (DY hW zs g3 (by omega) x hx).2
theorem VS (a b:Au)(hta:a.nA)(htb:b.nA)(aw:Ca E1 1011 [] (.d (.v (.bool true)),none)) :
  Ca E1 1005 [.d a.d,.d b.d] (.d (.v (.bool true)),none):=by
 have l1:Ca E1 1023 [.d a.d] (.d (.v (.bool a.bC)),none):=tQ a.kk a.ps a.sy a.st a.aN a.fin a.ah;have l2:Ca E1 1023 [.d b.d] (.d (.v (.bool b.bC)),none):=tQ b.kk b.ps b.sy b.st b.aN b.fin b.ah;obtain⟨N1,t1⟩:=l1.any;obtain⟨N2,t2⟩:=l2.any;obtain⟨N3,t3⟩:=aw.any
 by_cases h:a.bC=true/\b.bC=true
 ·have ha:=Au.lit hta h.1;have hb:=Au.lit htb h.2;obtain⟨A,er,⟨qa,qb,qc,qd,qf,qg,qh,rfl⟩,n1,n2,n3⟩:=J_ ha;obtain⟨v1,v2⟩:=ha.jg;obtain⟨s1,s2⟩:=ha.xm hb;have s3:=(ha.xm ha).1;rw[a.QQ]at s3;rw[h.1]at t1;rw[h.2]at t2;obtain⟨M1,u1⟩:=n1.any;obtain⟨M2,u2⟩:=n2.any;obtain⟨M3,u3⟩:=n3.any;obtain⟨M4,u4⟩:=v1.any;obtain⟨M5,u5⟩:=v2.any;obtain⟨M6,u6⟩:=s1.any;obtain⟨M7,u7⟩:=s2.any;obtain⟨M8,u8⟩:=s3.any;obtain⟨K,hK⟩:∃ K,K=N1+N2+N3+M1+M2+M3+M4+M5+M6+M7+M8:=⟨_,rfl⟩
  replace t1:=t1 K (by omega);replace t2:=t2 K (by omega);replace t3:=t3 K (by omega);replace u1:=u1 K (by omega);replace u2:=u2 K (by omega);replace u3:=u3 K (by omega);replace u4:=u4 K (by omega);replace u5:=u5 K (by omega);replace u6:=u6 K (by omega);replace u7:=u7 K (by omega);replace u8:=u8 K (by omega);refine Ca.bD (n:=K+300) ?_;rw[av rfl (k1005:E1.fn _=_) rfl];generalize a.valid=vb,a.same b=sb at*;unfold Au.d jf fA at*;clear n1 n2 n3 v1 v2 s1 s2 s3 ha hb h hta htb l1 l2 aw hK;generalize LK .i64 qb=q2,LK .i64 a.ps=p1,a.aN.map W.d=p2,a.fin.map W.d=p3,a.ah.map (Ar.d id)=p4,LK .i64 b.ps=r1,b.aN.map W.d=r2,b.fin.map W.d=r3,b.ah.map (Ar.d id)=r4 at*;cases vb<;>cases sb<;>simp -implicitDefEqProofs[f1005,t1,t2,t3,u1,u2,u3,u4,u5,u6,u7,u8,gZ]
 ·obtain⟨K,hK⟩:∃ K,K=N1+N2+N3:=⟨_,rfl⟩
  replace t1:=t1 K (by omega);replace t2:=t2 K (by omega);replace t3:=t3 K (by omega);refine Ca.bD (n:=K+300) ?_;rw[av rfl (k1005:E1.fn _=_) rfl];have hd:a.bC=true->b.bC=false:=by
   intro h1;cases hw:b.bC with
   | true=>exact absurd ⟨h1,hw⟩ h
   | false=>rfl
  generalize a.bC=b1,b.bC=b2 at*;unfold Au.d jf fA at*;clear h hta htb l1 l2 aw hK;generalize LK .i64 a.ps=p1,a.aN.map W.d=p2,a.fin.map W.d=p3,a.ah.map (Ar.d id)=p4,LK .i64 b.ps=r1,b.aN.map W.d=r2,b.fin.map W.d=r3,b.ah.map (Ar.d id)=r4 at*;cases b1
  ·simp -implicitDefEqProofs[f1005,t1,t2,t3,gZ]
  ·obtain rfl:=hd rfl;simp -implicitDefEqProofs[f1005,t1,t2,t3,gZ]
end Fi.S
