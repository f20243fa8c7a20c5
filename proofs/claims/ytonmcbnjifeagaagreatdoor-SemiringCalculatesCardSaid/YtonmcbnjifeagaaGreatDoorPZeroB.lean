/- Zero and One of three parts. -/
import Derived.Test.YtonmcbnjifeagaaGreatDoorPZero
namespace Fi.S
open Go Fi
set_option maxHeartbeats 8000000
set_option maxRecDepth 1000000
theorem WT:([1,2,3,4,5].all fun k=>gZ 6 [1,1,k])=true:=by kernel_rfl
theorem WU:([1,2,3,4,5].all fun k=>gZ 6 [1,2,k])=true:=by kernel_rfl
theorem WV:([1,2,3,4,5].all fun k=>gZ 6 [1,3,k])=true:=by kernel_rfl
theorem WW:([1,2,3,4,5].all fun k=>gZ 6 [1,4,k])=true:=by kernel_rfl
theorem WX:([1,2,3,4,5].all fun k=>gZ 6 [1,5,k])=true:=by kernel_rfl
theorem WY:([1,2,3,4,5].all fun k=>gZ 6 [2,1,k])=true:=by kernel_rfl
theorem WZ:([1,2,3,4,5].all fun k=>gZ 6 [2,2,k])=true:=by kernel_rfl
theorem W9:([1,2,3,4,5].all fun k=>gZ 6 [2,3,k])=true:=by kernel_rfl
theorem W_:([1,2,3,4,5].all fun k=>gZ 6 [2,4,k])=true:=by kernel_rfl
theorem Xa:([1,2,3,4,5].all fun k=>gZ 6 [2,5,k])=true:=by kernel_rfl
end Fi.S
