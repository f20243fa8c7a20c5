import Derived.Test.YtkekcmgkpdkieaaGreatDoorCS2
import Derived.Test.YtkekcmgkpdkieaaGreatDoorCU0
set_option linter.unusedVariables false
set_option linter.unusedSimpArgs false
namespace Fi.S
open Go Fi
set_option maxHeartbeats 8000000
set_option maxRecDepth 10000
end Fi.S
noncomputable section
namespace Fi.S
open Go Fi
set_option maxHeartbeats 8000000
set_option maxRecDepth 10000
variable {α:Type} {e:α->W}
end Fi.S
noncomputable section
namespace Fi.S
open Go Fi
set_option maxHeartbeats 8000000
set_option maxRecDepth 10000
end Fi.S
noncomputable section
namespace Fi.S
open Go Fi
set_option maxHeartbeats 8000000
set_option maxRecDepth 10000
theorem Mo.Ul {m n:Mo}(h:m.eq n=true):m=n:=by
 unfold Mo.eq at h;simp only[Qa2,decide_eq_true_eq,beq_iff_eq]at h;cases m;cases n
 simp_all
theorem Um:∀ {l m:List Mo},iD Mo.eq l m=true->l=m
 | [],[],_=>rfl
 | x::l,y::m,h=>by
  simp only[iD,Qa2]at h;rw[Mo.Ul h.1,Um h.2]
 | [],_::_,h=>by simp[iD]at h
 | _::_,[],h=>by simp[iD]at h
mutual
theorem W.Ul:∀ {v w:W},v.eq w=true->v=w
 | .mk ..,.mk ..,h=>by
  simp only[W.eq,Qa2,decide_eq_true_eq,beq_iff_eq]at h;obtain⟨⟨⟨⟨⟨⟨⟨rfl,rfl⟩,rfl⟩,rfl⟩,rfl⟩,rfl⟩,h1⟩,h2⟩:=h;rw[Um h1,W.Un h2]
theorem W.Un:∀ {l m:List W},W.eqs l m=true->l=m
 | [],[],_=>rfl
 | x::l,y::m,h=>by
  simp only[W.eqs,Qa2]at h;rw[W.Ul h.1,W.Un h.2]
 | [],_::_,h=>by simp[W.eqs]at h
 | _::_,[],h=>by simp[W.eqs]at h
end
section vals
variable {kk:Int} {ps:List Int} (hv:aR kk ps=true) {x:List Sv} (hx:mK 9 2 (lI kk ps) x)
include hv hx
end vals
end Fi.S
