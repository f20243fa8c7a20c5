import Derived.Test.YtckkhcnfdmlabaaGreatDoorPZero
set_option linter.unusedVariables false
set_option linter.unusedSimpArgs false
namespace Fi.S
open Go Fi
set_option maxHeartbeats 8000000
set_option maxRecDepth 1000000
theorem aa4:([1,2,3,4,5].all fun k=>iW 6 [4,1,k])=true:=by kernel_rfl
theorem aa5:([1,2,3,4,5].all fun k=>iW 6 [4,2,k])=true:=by kernel_rfl
theorem aa6:([1,2,3,4,5].all fun k=>iW 6 [4,3,k])=true:=by kernel_rfl
theorem aa7:([1,2,3,4,5].all fun k=>iW 6 [4,4,k])=true:=by kernel_rfl
theorem aa8:([1,2,3,4,5].all fun k=>iW 6 [4,5,k])=true:=by kernel_rfl
theorem aa9:([1,2,3,4,5].all fun k=>iW 6 [5,1,k])=true:=by kernel_rfl
theorem aa_:([1,2,3,4,5].all fun k=>iW 6 [5,2,k])=true:=by kernel_rfl
theorem aa':([1,2,3,4,5].all fun k=>iW 6 [5,3,k])=true:=by kernel_rfl
theorem aba:([1,2,3,4,5].all fun k=>iW 6 [5,4,k])=true:=by kernel_rfl
theorem abb:([1,2,3,4,5].all fun k=>iW 6 [5,5,k])=true:=by kernel_rfl
end Fi.S
