/- Each function's F-code is what its body comes to. Printed by program. -/
import Derived.Test.YtonmcbnjifeagaaGreatDoorSCode
import Derived.Test.YtonmcbnjifeagaaGreatDoorChecked
set_option linter.unusedVariables false
set_option linter.unusedSimpArgs false
namespace Fi.S
open Go Fi Go.Proofs
set_option maxRecDepth 1000000

theorem mixed:Tryz.prog.follows .mixedOrders=true:=by kernel_rfl

theorem bodied:bodiedB Tryz.prog 344 no=true:=by kernel_rfl

theorem bodies (E:Env)(h:noneGiven E no=true):Bodies Tryz.prog E gid:=bodies_of bodied h
end Fi.S
