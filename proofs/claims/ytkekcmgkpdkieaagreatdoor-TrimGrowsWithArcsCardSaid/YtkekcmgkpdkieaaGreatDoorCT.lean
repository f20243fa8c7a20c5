import Derived.Test.YtkekcmgkpdkieaaGreatDoorCS
set_option linter.unusedVariables false
set_option linter.unusedSimpArgs false
noncomputable section
namespace Fi.S
open Go Fi
set_option maxHeartbeats 8000000
section
variable {α:Type} {e:α->W}
end
section
variable {α:Type} {e:α->W}
end
section
variable {α:Type} {e:α->W}
end
section
variable {α:Type} {e:α->W} {pl:α->α->α} {z:W} {fo:α->Bool} {G:Nat->α->Prop} {m:Nat} {kk:Int} {ps:List Int}
theorem Da.keep {s:Nat}{out:FV}{L:List ae}{aq:List (Ar α)}(h:Da e s out L aq)(X:List ae):Da e s out (L++X) aq:=by
 rcases h with h|⟨i,az,h1,h2,h3⟩
 ·exact .inl h
 ·exact .inr ⟨i,az,h1,h2,by rw[Qa0 (bD h3)];exact h3⟩
end
section
variable {α:Type} {e:α->W} {pl:α->α->α} {z:W} {fo:α->Bool} {G:Nat->α->Prop} {m:Nat} {kk:Int} {ps:List Int}
end
set_option maxRecDepth 10000
section
variable {α:Type} {e:α->W} {pl:α->α->α} {z:W} {fo:α->Bool} {G:Nat->α->Prop} {m:Nat} {kk:Int} {ps:List Int}
end
end Fi.S
namespace Fi.S
open Go Fi
set_option maxHeartbeats 8000000
set_option maxRecDepth 10000
section
variable {α:Type} {e:α->W} {kk:Int} {ps:List Int}
end
end Fi.S
namespace Fi.S
open Go Fi
set_option maxHeartbeats 8000000
set_option maxRecDepth 10000
section
variable {α:Type} {e:α->W} {kk:Int} {ps:List Int}
end
section
variable {α:Type} {e:α->W}
def jv (ws ws':List W):Bool:=decide ((ws.length:Int)=ws'.length)&&(ws.zip ws').all fun p=>p.1.eq p.2
end
end Fi.S
noncomputable section
namespace Fi.S
open Go Fi
set_option maxHeartbeats 8000000
set_option maxRecDepth 10000
variable {α:Type} {e:α->W}
theorem Fx {pl:α->α->α}{fo:α->Bool}(l:List (Ar α))(n:Nat)(h:l.length<=n):(fD pl fo l).length<=n:=by
 have hf:∀ (l p:List (Ar α)),(l.foldl (fun p x=>bQ pl x p) p).length<=p.length+l.length:=by
  intro l
  induction l with
  | nil=>intro p;simp
  | cons x l ih =>
   intro p;have:=ih (bQ pl x p);have:=C9 pl x p;simp only[Qq1,Qf0];omega
 have h1:=Xg1 (fun a => !fo a.x) (eQ pl l);have h2:=hf l [];unfold fD;unfold eQ at*;simp only[Qq0]at h2;omega
end Fi.S
