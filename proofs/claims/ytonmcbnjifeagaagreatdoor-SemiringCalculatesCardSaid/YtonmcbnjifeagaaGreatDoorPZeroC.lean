/- Zero and One of three parts. -/
import Derived.Test.YtonmcbnjifeagaaGreatDoorPZero
namespace Fi.S
open Go Fi
set_option maxHeartbeats 8000000
set_option maxRecDepth 1000000
theorem Xb:([1,2,3,4,5].all fun k=>gZ 6 [3,1,k])=true:=by kernel_rfl
theorem Xc:([1,2,3,4,5].all fun k=>gZ 6 [3,2,k])=true:=by kernel_rfl
theorem Xd:([1,2,3,4,5].all fun k=>gZ 6 [3,3,k])=true:=by kernel_rfl
theorem Xe:([1,2,3,4,5].all fun k=>gZ 6 [3,4,k])=true:=by kernel_rfl
theorem Xf:([1,2,3,4,5].all fun k=>gZ 6 [3,5,k])=true:=by kernel_rfl
end Fi.S
