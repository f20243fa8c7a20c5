import Derived.Test.YtgngjdakilfmoaaGreatDoorPZero
namespace Fi.S
open Go Fi
set_option maxHeartbeats 8000000
set_option maxRecDepth 1000000
theorem aeh:([1,2,3,4,5].all fun k=>jA 6 [3,1,k])=true:=by kernel_rfl
theorem aei:([1,2,3,4,5].all fun k=>jA 6 [3,2,k])=true:=by kernel_rfl
theorem aej:([1,2,3,4,5].all fun k=>jA 6 [3,3,k])=true:=by kernel_rfl
theorem aek:([1,2,3,4,5].all fun k=>jA 6 [3,4,k])=true:=by kernel_rfl
theorem ael:([1,2,3,4,5].all fun k=>jA 6 [3,5,k])=true:=by kernel_rfl
end Fi.S
