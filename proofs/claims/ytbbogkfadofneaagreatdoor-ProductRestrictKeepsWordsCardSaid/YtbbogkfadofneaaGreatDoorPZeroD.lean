import Derived.Test.YtbbogkfadofneaaGreatDoorPZero
namespace Fi.S
open Go Fi
set_option maxHeartbeats 8000000
set_option maxRecDepth 1000000
theorem acA:([1,2,3,4,5].all fun k=>jh 6 [4,1,k])=true:=by kernel_rfl
theorem acB:([1,2,3,4,5].all fun k=>jh 6 [4,2,k])=true:=by kernel_rfl
theorem acC:([1,2,3,4,5].all fun k=>jh 6 [4,3,k])=true:=by kernel_rfl
theorem acD:([1,2,3,4,5].all fun k=>jh 6 [4,4,k])=true:=by kernel_rfl
theorem acE:([1,2,3,4,5].all fun k=>jh 6 [4,5,k])=true:=by kernel_rfl
theorem acF:([1,2,3,4,5].all fun k=>jh 6 [5,1,k])=true:=by kernel_rfl
theorem acG:([1,2,3,4,5].all fun k=>jh 6 [5,2,k])=true:=by kernel_rfl
theorem acH:([1,2,3,4,5].all fun k=>jh 6 [5,3,k])=true:=by kernel_rfl
theorem acI:([1,2,3,4,5].all fun k=>jh 6 [5,4,k])=true:=by kernel_rfl
theorem acJ:([1,2,3,4,5].all fun k=>jh 6 [5,5,k])=true:=by kernel_rfl
end Fi.S
