import Derived.Test.YtkekcmgkpdkieaaGreatDoorPZero
namespace Fi.S
open Go Fi
set_option maxHeartbeats 8000000
set_option maxRecDepth 1000000
theorem abq:([1,2,3,4,5].all fun k=>iT 6 [1,1,k])=true:=by kernel_rfl
theorem abr:([1,2,3,4,5].all fun k=>iT 6 [1,2,k])=true:=by kernel_rfl
theorem abt:([1,2,3,4,5].all fun k=>iT 6 [1,3,k])=true:=by kernel_rfl
theorem abu:([1,2,3,4,5].all fun k=>iT 6 [1,4,k])=true:=by kernel_rfl
theorem abv:([1,2,3,4,5].all fun k=>iT 6 [1,5,k])=true:=by kernel_rfl
theorem abw:([1,2,3,4,5].all fun k=>iT 6 [2,1,k])=true:=by kernel_rfl
theorem abx:([1,2,3,4,5].all fun k=>iT 6 [2,2,k])=true:=by kernel_rfl
theorem aby:([1,2,3,4,5].all fun k=>iT 6 [2,3,k])=true:=by kernel_rfl
theorem abz:([1,2,3,4,5].all fun k=>iT 6 [2,4,k])=true:=by kernel_rfl
theorem abA:([1,2,3,4,5].all fun k=>iT 6 [2,5,k])=true:=by kernel_rfl
end Fi.S
