/- Zero and One of three parts. -/
import Derived.Test.YtonmcbnjifeagaaGreatDoorPZero
namespace Fi.S
open Go Fi
set_option maxHeartbeats 8000000
set_option maxRecDepth 1000000
theorem Xg:([1,2,3,4,5].all fun k=>gZ 6 [4,1,k])=true:=by kernel_rfl
theorem Xh:([1,2,3,4,5].all fun k=>gZ 6 [4,2,k])=true:=by kernel_rfl
theorem Xi:([1,2,3,4,5].all fun k=>gZ 6 [4,3,k])=true:=by kernel_rfl
theorem Xj:([1,2,3,4,5].all fun k=>gZ 6 [4,4,k])=true:=by kernel_rfl
theorem Xk:([1,2,3,4,5].all fun k=>gZ 6 [4,5,k])=true:=by kernel_rfl
theorem Xl:([1,2,3,4,5].all fun k=>gZ 6 [5,1,k])=true:=by kernel_rfl
theorem Xm:([1,2,3,4,5].all fun k=>gZ 6 [5,2,k])=true:=by kernel_rfl
theorem Xn:([1,2,3,4,5].all fun k=>gZ 6 [5,3,k])=true:=by kernel_rfl
theorem Xo:([1,2,3,4,5].all fun k=>gZ 6 [5,4,k])=true:=by kernel_rfl
theorem Xp:([1,2,3,4,5].all fun k=>gZ 6 [5,5,k])=true:=by kernel_rfl
end Fi.S
