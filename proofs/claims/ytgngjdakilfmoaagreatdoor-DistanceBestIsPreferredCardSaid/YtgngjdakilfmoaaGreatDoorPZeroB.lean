import Derived.Test.YtgngjdakilfmoaaGreatDoorPZero
namespace Fi.S
open Go Fi
set_option maxHeartbeats 8000000
set_option maxRecDepth 1000000
theorem ad9:([1,2,3,4,5].all fun k=>jA 6 [1,1,k])=true:=by kernel_rfl
theorem ad_:([1,2,3,4,5].all fun k=>jA 6 [1,2,k])=true:=by kernel_rfl
theorem ad':([1,2,3,4,5].all fun k=>jA 6 [1,3,k])=true:=by kernel_rfl
theorem aea:([1,2,3,4,5].all fun k=>jA 6 [1,4,k])=true:=by kernel_rfl
theorem aeb:([1,2,3,4,5].all fun k=>jA 6 [1,5,k])=true:=by kernel_rfl
theorem aec:([1,2,3,4,5].all fun k=>jA 6 [2,1,k])=true:=by kernel_rfl
theorem aed:([1,2,3,4,5].all fun k=>jA 6 [2,2,k])=true:=by kernel_rfl
theorem aee:([1,2,3,4,5].all fun k=>jA 6 [2,3,k])=true:=by kernel_rfl
theorem aef:([1,2,3,4,5].all fun k=>jA 6 [2,4,k])=true:=by kernel_rfl
theorem aeg:([1,2,3,4,5].all fun k=>jA 6 [2,5,k])=true:=by kernel_rfl
end Fi.S
