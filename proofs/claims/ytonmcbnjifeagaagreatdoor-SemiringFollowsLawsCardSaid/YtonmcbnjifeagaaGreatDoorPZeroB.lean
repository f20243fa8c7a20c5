/- Zero and One of three parts. -/
import Derived.Test.YtonmcbnjifeagaaGreatDoorPZero
set_option linter.unusedVariables false
set_option linter.unusedSimpArgs false
namespace Fi.S
open Go Fi
set_option maxHeartbeats 8000000
set_option maxRecDepth 1000000
theorem zc_311:([1,2,3,4,5].all fun k=>zcB 6 [1,1,k])=true:=by kernel_rfl
theorem zc_312:([1,2,3,4,5].all fun k=>zcB 6 [1,2,k])=true:=by kernel_rfl
theorem zc_313:([1,2,3,4,5].all fun k=>zcB 6 [1,3,k])=true:=by kernel_rfl
theorem zc_314:([1,2,3,4,5].all fun k=>zcB 6 [1,4,k])=true:=by kernel_rfl
theorem zc_315:([1,2,3,4,5].all fun k=>zcB 6 [1,5,k])=true:=by kernel_rfl
theorem zc_321:([1,2,3,4,5].all fun k=>zcB 6 [2,1,k])=true:=by kernel_rfl
theorem zc_322:([1,2,3,4,5].all fun k=>zcB 6 [2,2,k])=true:=by kernel_rfl
theorem zc_323:([1,2,3,4,5].all fun k=>zcB 6 [2,3,k])=true:=by kernel_rfl
theorem zc_324:([1,2,3,4,5].all fun k=>zcB 6 [2,4,k])=true:=by kernel_rfl
theorem zc_325:([1,2,3,4,5].all fun k=>zcB 6 [2,5,k])=true:=by kernel_rfl
end Fi.S
