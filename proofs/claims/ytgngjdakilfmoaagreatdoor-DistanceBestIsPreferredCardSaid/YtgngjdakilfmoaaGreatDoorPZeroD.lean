import Derived.Test.YtgngjdakilfmoaaGreatDoorPZero
namespace Fi.S
open Go Fi
set_option maxHeartbeats 8000000
set_option maxRecDepth 1000000
theorem aem:([1,2,3,4,5].all fun k=>jA 6 [4,1,k])=true:=by kernel_rfl
theorem aen:([1,2,3,4,5].all fun k=>jA 6 [4,2,k])=true:=by kernel_rfl
theorem aeo:([1,2,3,4,5].all fun k=>jA 6 [4,3,k])=true:=by kernel_rfl
theorem aep:([1,2,3,4,5].all fun k=>jA 6 [4,4,k])=true:=by kernel_rfl
theorem aer:([1,2,3,4,5].all fun k=>jA 6 [4,5,k])=true:=by kernel_rfl
theorem aes:([1,2,3,4,5].all fun k=>jA 6 [5,1,k])=true:=by kernel_rfl
theorem aet:([1,2,3,4,5].all fun k=>jA 6 [5,2,k])=true:=by kernel_rfl
theorem aeu:([1,2,3,4,5].all fun k=>jA 6 [5,3,k])=true:=by kernel_rfl
theorem aev:([1,2,3,4,5].all fun k=>jA 6 [5,4,k])=true:=by kernel_rfl
theorem aew:([1,2,3,4,5].all fun k=>jA 6 [5,5,k])=true:=by kernel_rfl
end Fi.S
