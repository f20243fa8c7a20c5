import Derived.Test.YtbbogkfadofneaaGreatDoorPZero
namespace Fi.S
open Go Fi
set_option maxHeartbeats 8000000
set_option maxRecDepth 1000000
theorem acv:([1,2,3,4,5].all fun k=>jh 6 [3,1,k])=true:=by kernel_rfl
theorem acw:([1,2,3,4,5].all fun k=>jh 6 [3,2,k])=true:=by kernel_rfl
theorem acx:([1,2,3,4,5].all fun k=>jh 6 [3,3,k])=true:=by kernel_rfl
theorem acy:([1,2,3,4,5].all fun k=>jh 6 [3,4,k])=true:=by kernel_rfl
theorem acz:([1,2,3,4,5].all fun k=>jh 6 [3,5,k])=true:=by kernel_rfl
end Fi.S
