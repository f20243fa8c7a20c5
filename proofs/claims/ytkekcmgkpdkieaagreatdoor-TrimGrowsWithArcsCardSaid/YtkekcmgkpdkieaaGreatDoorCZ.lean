import Derived.Test.YtkekcmgkpdkieaaGreatDoorCS2
import Derived.Test.YtkekcmgkpdkieaaGreatDoorCU0
set_option linter.unusedVariables false
set_option linter.unusedSimpArgs false
namespace Fi.S
open Go Fi
set_option maxHeartbeats 8000000
set_option maxRecDepth 10000
end Fi.S
noncomputable section
namespace Fi.S
open Go Fi
set_option maxHeartbeats 8000000
set_option maxRecDepth 10000
variable {α:Type} {e:α->W}
end Fi.S
noncomputable section
namespace Fi.S
open Go Fi
set_option maxHeartbeats 8000000
set_option maxRecDepth 10000
end Fi.S
noncomputable section
namespace Fi.S
open Go Fi
set_option maxHeartbeats 8000000
set_option maxRecDepth 10000
theorem Mo.OV {m n:Mo}(h:m.eq n=true):m=n:=by
 unfold Mo.eq at h;simp only[Qc0,decide_eq_true_eq,beq_iff_eq]at h;cases m;cases n
 simp_all
theorem V3:∀ {l m:List Mo},iT Mo.eq l m=true->l=m
 | [],[],_=>rfl
 | x::l,y::m,h=>by
  simp only[iT,Qc0]at h;rw[Mo.OV h.1,V3 h.2]
 | [],_::_,h=>by simp[iT]at h
 | _::_,[],h=>by simp[iT]at h
mutual
theorem W.OV:∀ {v w:W},v.eq w=true->v=w
 | .mk ..,.mk ..,h=>by
  simp only[W.eq,Qc0,decide_eq_true_eq,beq_iff_eq]at h;obtain⟨⟨⟨⟨⟨⟨⟨rfl,rfl⟩,rfl⟩,rfl⟩,rfl⟩,rfl⟩,h1⟩,h2⟩:=h;rw[V3 h1,W.V4 h2]
theorem W.V4:∀ {l m:List W},W.eqs l m=true->l=m
 | [],[],_=>rfl
 | x::l,y::m,h=>by
  simp only[W.eqs,Qc0]at h;rw[W.OV h.1,W.V4 h.2]
 | [],_::_,h=>by simp[W.eqs]at h
 | _::_,[],h=>by simp[W.eqs]at h
end
section vals
variable {kk:Int} {ps:List Int} (hv:aJ kk ps=true) {x:List Sv} (hx:gU 9 2 (dz kk ps) x)
include hv hx
end vals
end Fi.S
