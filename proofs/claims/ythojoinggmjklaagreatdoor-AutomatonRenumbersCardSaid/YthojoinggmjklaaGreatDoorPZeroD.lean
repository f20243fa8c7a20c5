import Derived.Test.YthojoinggmjklaaGreatDoorPZero
set_option linter.unusedVariables false
set_option linter.unusedSimpArgs false
namespace Fi.S
open Go Fi
set_option maxHeartbeats 8000000
set_option maxRecDepth 1000000
theorem YX:([1,2,3,4,5].all fun k=>iC 6 [4,1,k])=true:=by kernel_rfl
theorem YY:([1,2,3,4,5].all fun k=>iC 6 [4,2,k])=true:=by kernel_rfl
theorem YZ:([1,2,3,4,5].all fun k=>iC 6 [4,3,k])=true:=by kernel_rfl
theorem Y0:([1,2,3,4,5].all fun k=>iC 6 [4,4,k])=true:=by kernel_rfl
theorem Y1:([1,2,3,4,5].all fun k=>iC 6 [4,5,k])=true:=by kernel_rfl
theorem Y2:([1,2,3,4,5].all fun k=>iC 6 [5,1,k])=true:=by kernel_rfl
theorem Y3:([1,2,3,4,5].all fun k=>iC 6 [5,2,k])=true:=by kernel_rfl
theorem Y4:([1,2,3,4,5].all fun k=>iC 6 [5,3,k])=true:=by kernel_rfl
theorem Y5:([1,2,3,4,5].all fun k=>iC 6 [5,4,k])=true:=by kernel_rfl
theorem Y6:([1,2,3,4,5].all fun k=>iC 6 [5,5,k])=true:=by kernel_rfl
end Fi.S
