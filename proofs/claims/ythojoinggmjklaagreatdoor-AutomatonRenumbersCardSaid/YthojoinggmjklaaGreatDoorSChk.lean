import Derived.Test.YthojoinggmjklaaGreatDoorSCode
set_option linter.unusedVariables false
set_option linter.unusedSimpArgs false
namespace Fi.S
open Go Fi Go.Proofs
set_option maxRecDepth 1000000

theorem mixed:Tryz.prog.follows .mixedOrders=true:=by kernel_rfl

theorem aag:ER Tryz.prog tab no=true:=by kernel_rfl


theorem bodies (E:Env)(h:jG E no=true):Bodies Tryz.prog E sig:=Wy aag uS h
end Fi.S
