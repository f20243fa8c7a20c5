/- Zero and One of three parts. -/
import Derived.Test.YtonmcbnjifeagaaGreatDoorPZero
set_option linter.unusedVariables false
set_option linter.unusedSimpArgs false
namespace Fi.S
open Go Fi
set_option maxHeartbeats 8000000
set_option maxRecDepth 1000000
theorem zc_341:([1,2,3,4,5].all fun k=>zcB 6 [4,1,k])=true:=by kernel_rfl
theorem zc_342:([1,2,3,4,5].all fun k=>zcB 6 [4,2,k])=true:=by kernel_rfl
theorem zc_343:([1,2,3,4,5].all fun k=>zcB 6 [4,3,k])=true:=by kernel_rfl
theorem zc_344:([1,2,3,4,5].all fun k=>zcB 6 [4,4,k])=true:=by kernel_rfl
theorem zc_345:([1,2,3,4,5].all fun k=>zcB 6 [4,5,k])=true:=by kernel_rfl
theorem zc_351:([1,2,3,4,5].all fun k=>zcB 6 [5,1,k])=true:=by kernel_rfl
theorem zc_352:([1,2,3,4,5].all fun k=>zcB 6 [5,2,k])=true:=by kernel_rfl
theorem zc_353:([1,2,3,4,5].all fun k=>zcB 6 [5,3,k])=true:=by kernel_rfl
theorem zc_354:([1,2,3,4,5].all fun k=>zcB 6 [5,4,k])=true:=by kernel_rfl
theorem zc_355:([1,2,3,4,5].all fun k=>zcB 6 [5,5,k])=true:=by kernel_rfl
end Fi.S
