/- Each function's F-code is what its body comes to. Printed by program. -/
import Derived.Test.YtonmcbnjifeagaaGreatDoorSCode
import Derived.Test.YtonmcbnjifeagaaGreatDoorChecked
namespace Fi.S
open Go Fi Go.Proofs
set_option maxRecDepth 1000000

theorem mixed:Tryz.prog.follows .mixedOrders=true:=by kernel_rfl

theorem Yb:Kl Tryz.prog 344 no=true:=by kernel_rfl

theorem bodies (E:Env)(h:mR E no=true):Bodies Tryz.prog E gid:=MR Yb h
end Fi.S
