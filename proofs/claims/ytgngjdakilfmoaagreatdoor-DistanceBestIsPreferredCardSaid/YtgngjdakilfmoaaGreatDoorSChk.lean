import Derived.Test.YtgngjdakilfmoaaGreatDoorSCode
namespace Fi.S
open Go Fi Go.Proofs
set_option maxRecDepth 1000000

theorem mixed:Tryz.prog.follows .mixedOrders=true:=by kernel_rfl

theorem afP:I9 Tryz.prog tab no=true:=by kernel_rfl


theorem bodies (E:Env)(h:kU E no=true):Bodies Tryz.prog E sig:=acf afP xO h
end Fi.S
