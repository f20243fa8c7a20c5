import Derived.Test.YtkekcmgkpdkieaaGreatDoorDA
import Derived.Test.YtkekcmgkpdkieaaGreatDoorCX
set_option linter.unusedVariables false
set_option linter.unusedSimpArgs false
noncomputable section
namespace Fi.S
open Go Fi
set_option maxHeartbeats 8000000
set_option maxRecDepth 10000
variable {α:Type} {e:α->W}
end Fi.S
noncomputable section
namespace Fi.S
open Go Fi
set_option maxHeartbeats 8000000
set_option maxRecDepth 10000
section afp
variable {α:Type} {e:α->W}
end afp
section vals
variable {kk:Int} {ps:List Int}
def Wt (kk:Int)(ps:List Int)(x:List Sv):Prop:=mK 3 20 (lI kk ps) x/\FrL 6 640 x
end vals
end Fi.S
noncomputable section
namespace Fi.S
open Go Fi
set_option maxHeartbeats 8000000
set_option maxRecDepth 10000
end Fi.S
noncomputable section
namespace Fi.S
open Go Fi
set_option maxHeartbeats 8000000
set_option maxRecDepth 10000
def jh:ai:=.box [dI 0,.d (.n 1),dI 0,dI 0,.d (.n 8),.d (.n 8),.d (.n 11)]
variable {α:Type} {e:α->W}
end Fi.S
noncomputable section
namespace Fi.S
open Go Fi
set_option maxHeartbeats 8000000
set_option maxRecDepth 10000
section ak
variable {kk:Int} {ps:List Int} (hv:aR kk ps=true)
include hv
structure aiD (kk:Int)(ps:List Int)(sy n:Nat)(a:Ar (List Sv)):Prop where
 f:0<=a.f/\a.f<n
 l:1<=a.l/\a.l<=sy
 t:0<=a.t/\a.t<n
 x:mK 9 2 (lI kk ps) a.x
 fr:FrL 6 64 a.x
end ak
end Fi.S
