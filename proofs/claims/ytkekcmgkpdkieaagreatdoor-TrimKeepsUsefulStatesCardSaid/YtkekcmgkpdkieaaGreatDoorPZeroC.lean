import Derived.Test.YtkekcmgkpdkieaaGreatDoorPZero
namespace Fi.S
open Go Fi
set_option maxHeartbeats 8000000
set_option maxRecDepth 1000000
theorem abB:([1,2,3,4,5].all fun k=>iT 6 [3,1,k])=true:=by kernel_rfl
theorem abC:([1,2,3,4,5].all fun k=>iT 6 [3,2,k])=true:=by kernel_rfl
theorem abD:([1,2,3,4,5].all fun k=>iT 6 [3,3,k])=true:=by kernel_rfl
theorem abE:([1,2,3,4,5].all fun k=>iT 6 [3,4,k])=true:=by kernel_rfl
theorem abF:([1,2,3,4,5].all fun k=>iT 6 [3,5,k])=true:=by kernel_rfl
end Fi.S
