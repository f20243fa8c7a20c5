import Derived.Test.YtgngjdakilfmoaaGreatDoorCX
set_option linter.unusedVariables false
set_option linter.unusedSimpArgs false
namespace Fi.S
open Go Fi
set_option maxHeartbeats 8000000
set_option maxRecDepth 10000
end Fi.S
noncomputable section
namespace Fi.S
open Go Fi
set_option maxHeartbeats 8000000
set_option maxRecDepth 10000
variable {α:Type} {e:α->W}
end Fi.S
noncomputable section
namespace Fi.S
open Go Fi
set_option maxHeartbeats 8000000
set_option maxRecDepth 10000
end Fi.S
noncomputable section
namespace Fi.S
open Go Fi
set_option maxHeartbeats 8000000
set_option maxRecDepth 10000
theorem Mo.PO {m n:Mo}(h:m.eq n=true):m=n:=by
 unfold Mo.eq at h;simp only[Qd0,decide_eq_true_eq,beq_iff_eq]at h;cases m;cases n
 simp_all
theorem Xj:∀ {l m:List Mo},lK Mo.eq l m=true->l=m
 | [],[],_=>rfl
 | x::l,y::m,h=>by
  simp only[lK,Qd0]at h;rw[Mo.PO h.1,Xj h.2]
 | [],_::_,h=>by simp[lK]at h
 | _::_,[],h=>by simp[lK]at h
mutual
theorem W.PO:∀ {v w:W},v.eq w=true->v=w
 | .mk ..,.mk ..,h=>by
  simp only[W.eq,Qd0,decide_eq_true_eq,beq_iff_eq]at h;obtain⟨⟨⟨⟨⟨⟨⟨rfl,rfl⟩,rfl⟩,rfl⟩,rfl⟩,rfl⟩,h1⟩,h2⟩:=h;rw[Xj h1,W.Xk h2]
theorem W.Xk:∀ {l m:List W},W.eqs l m=true->l=m
 | [],[],_=>rfl
 | x::l,y::m,h=>by
  simp only[W.eqs,Qd0]at h;rw[W.PO h.1,W.Xk h.2]
 | [],_::_,h=>by simp[W.eqs]at h
 | _::_,[],h=>by simp[W.eqs]at h
end
section vals
variable {kk:Int} {ps:List Int} (hv:aM kk ps=true) {x:List Sv} (hx:ik 9 2 (dG kk ps) x)
include hv hx
end vals
end Fi.S
