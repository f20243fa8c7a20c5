import Derived.Test.YtbbogkfadofneaaGreatDoorSCode
namespace Fi.S
open Go Fi Go.Proofs
set_option maxRecDepth 1000000

theorem mixed:Tryz.prog.follows .mixedOrders=true:=by kernel_rfl

theorem ad3:Hy Tryz.prog tab no=true:=by kernel_rfl


theorem bodies (E:Env)(h:ky E no=true):Bodies Tryz.prog E sig:=aav ad3 wZ h
end Fi.S
