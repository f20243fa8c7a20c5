import Derived.Test.YthojoinggmjklaaGreatDoorPZero
set_option linter.unusedVariables false
set_option linter.unusedSimpArgs false
namespace Fi.S
open Go Fi
set_option maxHeartbeats 8000000
set_option maxRecDepth 1000000
theorem YI:([1,2,3,4,5].all fun k=>iC 6 [1,1,k])=true:=by kernel_rfl
theorem YJ:([1,2,3,4,5].all fun k=>iC 6 [1,2,k])=true:=by kernel_rfl
theorem YK:([1,2,3,4,5].all fun k=>iC 6 [1,3,k])=true:=by kernel_rfl
theorem YL:([1,2,3,4,5].all fun k=>iC 6 [1,4,k])=true:=by kernel_rfl
theorem YM:([1,2,3,4,5].all fun k=>iC 6 [1,5,k])=true:=by kernel_rfl
theorem YN:([1,2,3,4,5].all fun k=>iC 6 [2,1,k])=true:=by kernel_rfl
theorem YO:([1,2,3,4,5].all fun k=>iC 6 [2,2,k])=true:=by kernel_rfl
theorem YP:([1,2,3,4,5].all fun k=>iC 6 [2,3,k])=true:=by kernel_rfl
theorem YQ:([1,2,3,4,5].all fun k=>iC 6 [2,4,k])=true:=by kernel_rfl
theorem YR:([1,2,3,4,5].all fun k=>iC 6 [2,5,k])=true:=by kernel_rfl
end Fi.S
