import Derived.Test.YtkekcmgkpdkieaaGreatDoorPZero
namespace Fi.S
open Go Fi
set_option maxHeartbeats 8000000
set_option maxRecDepth 1000000
theorem aey:([1,2,3,4,5].all fun k=>jA 6 [1,1,k])=true:=by kernel_rfl
theorem aez:([1,2,3,4,5].all fun k=>jA 6 [1,2,k])=true:=by kernel_rfl
theorem aeA:([1,2,3,4,5].all fun k=>jA 6 [1,3,k])=true:=by kernel_rfl
theorem aeB:([1,2,3,4,5].all fun k=>jA 6 [1,4,k])=true:=by kernel_rfl
theorem aeC:([1,2,3,4,5].all fun k=>jA 6 [1,5,k])=true:=by kernel_rfl
theorem aeD:([1,2,3,4,5].all fun k=>jA 6 [2,1,k])=true:=by kernel_rfl
theorem aeE:([1,2,3,4,5].all fun k=>jA 6 [2,2,k])=true:=by kernel_rfl
theorem aeF:([1,2,3,4,5].all fun k=>jA 6 [2,3,k])=true:=by kernel_rfl
theorem aeG:([1,2,3,4,5].all fun k=>jA 6 [2,4,k])=true:=by kernel_rfl
theorem aeH:([1,2,3,4,5].all fun k=>jA 6 [2,5,k])=true:=by kernel_rfl
end Fi.S
