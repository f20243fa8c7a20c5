import Derived.Test.YtbbogkfadofneaaGreatDoorPZero
namespace Fi.S
open Go Fi
set_option maxHeartbeats 8000000
set_option maxRecDepth 1000000
theorem aci:([1,2,3,4,5].all fun k=>jh 6 [1,1,k])=true:=by kernel_rfl
theorem acj:([1,2,3,4,5].all fun k=>jh 6 [1,2,k])=true:=by kernel_rfl
theorem ack:([1,2,3,4,5].all fun k=>jh 6 [1,3,k])=true:=by kernel_rfl
theorem acm:([1,2,3,4,5].all fun k=>jh 6 [1,4,k])=true:=by kernel_rfl
theorem acn:([1,2,3,4,5].all fun k=>jh 6 [1,5,k])=true:=by kernel_rfl
theorem aco:([1,2,3,4,5].all fun k=>jh 6 [2,1,k])=true:=by kernel_rfl
theorem acp:([1,2,3,4,5].all fun k=>jh 6 [2,2,k])=true:=by kernel_rfl
theorem acr:([1,2,3,4,5].all fun k=>jh 6 [2,3,k])=true:=by kernel_rfl
theorem acs:([1,2,3,4,5].all fun k=>jh 6 [2,4,k])=true:=by kernel_rfl
theorem acu:([1,2,3,4,5].all fun k=>jh 6 [2,5,k])=true:=by kernel_rfl
end Fi.S
