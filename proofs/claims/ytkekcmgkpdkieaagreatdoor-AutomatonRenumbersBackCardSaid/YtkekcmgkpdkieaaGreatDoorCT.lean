import Derived.Test.YtkekcmgkpdkieaaGreatDoorCS
set_option linter.unusedVariables false
set_option linter.unusedSimpArgs false
noncomputable section
namespace Fi.S
open Go Fi
set_option maxHeartbeats 8000000
section
variable {α:Type} {e:α->W}
end
section
variable {α:Type} {e:α->W}
end
section
variable {α:Type} {e:α->W}
end
section
variable {α:Type} {e:α->W} {pl:α->α->α} {z:W} {fo:α->Bool} {G:Nat->α->Prop} {m:Nat} {kk:Int} {ps:List Int}
theorem Da.keep {s:Nat}{out:FV}{L:List ae}{aq:List (Ar α)}(h:Da e s out L aq)(X:List ae):Da e s out (L++X) aq:=by
 rcases h with h|⟨i,az,h1,h2,h3⟩
 ·exact .inl h
 ·exact .inr ⟨i,az,h1,h2,by rw[Qa1 (bD h3)];exact h3⟩
end
section
variable {α:Type} {e:α->W} {pl:α->α->α} {z:W} {fo:α->Bool} {G:Nat->α->Prop} {m:Nat} {kk:Int} {ps:List Int}
end
set_option maxRecDepth 10000
section
variable {α:Type} {e:α->W} {pl:α->α->α} {z:W} {fo:α->Bool} {G:Nat->α->Prop} {m:Nat} {kk:Int} {ps:List Int}
end
end Fi.S
namespace Fi.S
open Go Fi
set_option maxHeartbeats 8000000
set_option maxRecDepth 10000
section
variable {α:Type} {e:α->W} {kk:Int} {ps:List Int}
end
end Fi.S
namespace Fi.S
open Go Fi
set_option maxHeartbeats 8000000
set_option maxRecDepth 10000
section
variable {α:Type} {e:α->W} {kk:Int} {ps:List Int}
theorem VF (n:Nat)(x lo hi:Int):CL E1 (n+100) 1041 [.d (.v (.int .i64 x)),.d (.v (.int .i64 lo)),.d (.v (.int .i64 hi))] []=some (.d (.v (.bool (Dc x lo hi))),none):=by
 rw[av rfl (k1041:E1.fn _=_) rfl];unfold Dc
 by_cases h1:lo<=x
 ·simp -implicitDefEqProofs[f1041,h1]
 ·have h2:x<lo:=by omega
  simp -implicitDefEqProofs[f1041,h1,h2]
theorem G6 (n:Nat)(x:Int):CL E1 (n+100) 1040 [.d (.v (.int .i64 x))] []=some (.d (.v (.bool (Dc x 1 32))),none):=by
 rw[av rfl (k1040:E1.fn _=_) rfl];unfold Dc
 by_cases h1:1<=x
 ·simp -implicitDefEqProofs[f1040,h1]
 ·have h2:x<1:=by omega
  simp -implicitDefEqProofs[f1040,h1,h2]
end
section
variable {α:Type} {e:α->W}
def jv (ws ws':List W):Bool:=decide ((ws.length:Int)=ws'.length)&&(ws.zip ws').all fun p=>p.1.eq p.2
def JZ (e:α->W)(aq aq':List (Ar α)):Bool:=decide ((aq.length:Int)=aq'.length)&&(aq.zip aq').all fun p=>decide (ng p.1 p.2=0)&&(e p.1.x).eq (e p.2.x)
def AZ (kk:Int)(ps:List Int)(sy st:Int)(aM fin:List W)(ak:List (Ar α))(kk':Int)(ps':List Int)(sy' st':Int)(Df fin':List W)(rW:List (Ar α))(e:α->W):Bool :=
 yF kk ps kk' ps'&&(decide (sy=sy')&&(decide (st=st')&&(jv aM Df&&(jv fin fin'&&JZ e ak rW))))
end
end Fi.S
noncomputable section
namespace Fi.S
open Go Fi
set_option maxHeartbeats 8000000
set_option maxRecDepth 10000
variable {α:Type} {e:α->W}
theorem J3 (k:Int)(ps:List Int):yF k ps k ps=true:=by simp[yF]
theorem Dg:∀ ws:List W,jv ws ws=true:=by
 intro ws;unfold jv;simp only[decide_true,Qs0,Qf2];intro p hp;obtain⟨i,hi⟩:=Qy1.1 hp;rw[Q92]at hi;rw[cz hi.1 hi.2];exact W.AQ _
theorem M0 (aq:List (Ar α)):JZ e aq aq=true:=by
 unfold JZ;simp only[decide_true,Qs0,Qf2];intro p hp;obtain⟨i,hi⟩:=Qy1.1 hp;rw[Q92]at hi;rw[cz hi.1 hi.2,W.AQ];have:ng p.2 p.2=0:=by
  rw[GR];exact⟨rfl,rfl,rfl⟩
 simp[this]
theorem G7 (kk:Int)(ps:List Int)(sy st:Int)(aM fin:List W)(ak:List (Ar α)):AZ kk ps sy st aM fin ak kk ps sy st aM fin ak e=true:=by
 unfold AZ;rw[J3,Dg,Dg,M0];simp
theorem Fx {pl:α->α->α}{fo:α->Bool}(l:List (Ar α))(n:Nat)(h:l.length<=n):(fD pl fo l).length<=n:=by
 have hf:∀ (l p:List (Ar α)),(l.foldl (fun p x=>bQ pl x p) p).length<=p.length+l.length:=by
  intro l
  induction l with
  | nil=>intro p;simp
  | cons x l ih =>
   intro p;have:=ih (bQ pl x p);have:=C9 pl x p;simp only[Qm0,Qe2];omega
 have h1:=Xq1 (fun a => !fo a.x) (eQ pl l);have h2:=hf l [];unfold fD;unfold eQ at*;simp only[Qr2]at h2;omega
end Fi.S
