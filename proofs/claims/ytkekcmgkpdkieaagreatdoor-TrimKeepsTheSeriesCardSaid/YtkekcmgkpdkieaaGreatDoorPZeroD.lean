import Derived.Test.YtkekcmgkpdkieaaGreatDoorPZero
namespace Fi.S
open Go Fi
set_option maxHeartbeats 8000000
set_option maxRecDepth 1000000
theorem aeN:([1,2,3,4,5].all fun k=>jA 6 [4,1,k])=true:=by kernel_rfl
theorem aeO:([1,2,3,4,5].all fun k=>jA 6 [4,2,k])=true:=by kernel_rfl
theorem aeP:([1,2,3,4,5].all fun k=>jA 6 [4,3,k])=true:=by kernel_rfl
theorem aeQ:([1,2,3,4,5].all fun k=>jA 6 [4,4,k])=true:=by kernel_rfl
theorem aeR:([1,2,3,4,5].all fun k=>jA 6 [4,5,k])=true:=by kernel_rfl
theorem aeS:([1,2,3,4,5].all fun k=>jA 6 [5,1,k])=true:=by kernel_rfl
theorem aeT:([1,2,3,4,5].all fun k=>jA 6 [5,2,k])=true:=by kernel_rfl
theorem aeU:([1,2,3,4,5].all fun k=>jA 6 [5,3,k])=true:=by kernel_rfl
theorem aeV:([1,2,3,4,5].all fun k=>jA 6 [5,4,k])=true:=by kernel_rfl
theorem aeW:([1,2,3,4,5].all fun k=>jA 6 [5,5,k])=true:=by kernel_rfl
end Fi.S
