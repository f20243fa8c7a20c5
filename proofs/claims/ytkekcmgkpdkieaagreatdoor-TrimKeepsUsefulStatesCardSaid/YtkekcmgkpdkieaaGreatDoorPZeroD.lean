import Derived.Test.YtkekcmgkpdkieaaGreatDoorPZero
namespace Fi.S
open Go Fi
set_option maxHeartbeats 8000000
set_option maxRecDepth 1000000
theorem abG:([1,2,3,4,5].all fun k=>iT 6 [4,1,k])=true:=by kernel_rfl
theorem abH:([1,2,3,4,5].all fun k=>iT 6 [4,2,k])=true:=by kernel_rfl
theorem abI:([1,2,3,4,5].all fun k=>iT 6 [4,3,k])=true:=by kernel_rfl
theorem abJ:([1,2,3,4,5].all fun k=>iT 6 [4,4,k])=true:=by kernel_rfl
theorem abK:([1,2,3,4,5].all fun k=>iT 6 [4,5,k])=true:=by kernel_rfl
theorem abL:([1,2,3,4,5].all fun k=>iT 6 [5,1,k])=true:=by kernel_rfl
theorem abM:([1,2,3,4,5].all fun k=>iT 6 [5,2,k])=true:=by kernel_rfl
theorem abN:([1,2,3,4,5].all fun k=>iT 6 [5,3,k])=true:=by kernel_rfl
theorem abO:([1,2,3,4,5].all fun k=>iT 6 [5,4,k])=true:=by kernel_rfl
theorem abP:([1,2,3,4,5].all fun k=>iT 6 [5,5,k])=true:=by kernel_rfl
end Fi.S
