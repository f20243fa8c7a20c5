/- Zero and One of three parts. -/
import Derived.Test.YtonmcbnjifeagaaGreatDoorPZero
set_option linter.unusedVariables false
set_option linter.unusedSimpArgs false
namespace Fi.S
open Go Fi
set_option maxHeartbeats 8000000
set_option maxRecDepth 1000000
theorem zc_331:([1,2,3,4,5].all fun k=>zcB 6 [3,1,k])=true:=by kernel_rfl
theorem zc_332:([1,2,3,4,5].all fun k=>zcB 6 [3,2,k])=true:=by kernel_rfl
theorem zc_333:([1,2,3,4,5].all fun k=>zcB 6 [3,3,k])=true:=by kernel_rfl
theorem zc_334:([1,2,3,4,5].all fun k=>zcB 6 [3,4,k])=true:=by kernel_rfl
theorem zc_335:([1,2,3,4,5].all fun k=>zcB 6 [3,5,k])=true:=by kernel_rfl
end Fi.S
