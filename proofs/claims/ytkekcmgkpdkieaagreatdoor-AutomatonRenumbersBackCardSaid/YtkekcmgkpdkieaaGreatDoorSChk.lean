import Derived.Test.YtkekcmgkpdkieaaGreatDoorSCode
namespace Fi.S
open Go Fi Go.Proofs
set_option maxRecDepth 1000000

theorem mixed:Tryz.prog.follows .mixedOrders=true:=by kernel_rfl

theorem adY:Ic Tryz.prog tab no=true:=by kernel_rfl


theorem bodies (E:Env)(h:kD E no=true):Bodies Tryz.prog E sig:=aar adY xw h
end Fi.S
