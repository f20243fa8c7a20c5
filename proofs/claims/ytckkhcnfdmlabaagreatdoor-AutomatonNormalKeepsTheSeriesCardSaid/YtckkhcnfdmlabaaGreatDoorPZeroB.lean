import Derived.Test.YtckkhcnfdmlabaaGreatDoorPZero
set_option linter.unusedVariables false
set_option linter.unusedSimpArgs false
namespace Fi.S
open Go Fi
set_option maxHeartbeats 8000000
set_option maxRecDepth 1000000
theorem aaP:([1,2,3,4,5].all fun k=>iW 6 [1,1,k])=true:=by kernel_rfl
theorem aaQ:([1,2,3,4,5].all fun k=>iW 6 [1,2,k])=true:=by kernel_rfl
theorem aaR:([1,2,3,4,5].all fun k=>iW 6 [1,3,k])=true:=by kernel_rfl
theorem aaS:([1,2,3,4,5].all fun k=>iW 6 [1,4,k])=true:=by kernel_rfl
theorem aaT:([1,2,3,4,5].all fun k=>iW 6 [1,5,k])=true:=by kernel_rfl
theorem aaU:([1,2,3,4,5].all fun k=>iW 6 [2,1,k])=true:=by kernel_rfl
theorem aaV:([1,2,3,4,5].all fun k=>iW 6 [2,2,k])=true:=by kernel_rfl
theorem aaW:([1,2,3,4,5].all fun k=>iW 6 [2,3,k])=true:=by kernel_rfl
theorem aaX:([1,2,3,4,5].all fun k=>iW 6 [2,4,k])=true:=by kernel_rfl
theorem aaY:([1,2,3,4,5].all fun k=>iW 6 [2,5,k])=true:=by kernel_rfl
end Fi.S
