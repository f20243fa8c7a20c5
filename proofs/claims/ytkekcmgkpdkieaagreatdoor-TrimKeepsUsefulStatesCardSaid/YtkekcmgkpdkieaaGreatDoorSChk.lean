import Derived.Test.YtkekcmgkpdkieaaGreatDoorSCode
namespace Fi.S
open Go Fi Go.Proofs
set_option maxRecDepth 1000000

theorem mixed:Tryz.prog.follows .mixedOrders=true:=by kernel_rfl

theorem ac2:Gh Tryz.prog tab no=true:=by kernel_rfl


theorem bodies (E:Env)(h:jW E no=true):Bodies Tryz.prog E sig:=Zr ac2 wh h
end Fi.S
