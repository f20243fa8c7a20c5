/- Zero and One of three parts. -/
import Derived.Test.YtonmcbnjifeagaaGreatDoorPRings
set_option linter.unusedVariables false
set_option linter.unusedSimpArgs false
namespace Fi.S
open Go Fi
set_option maxHeartbeats 8000000
set_option maxRecDepth 1000000
theorem zo_331 : ((rings3 3 1).all fun r => zoB 26 35 r && zoB 27 20 r) = true := by kernel_rfl
theorem zo_332 : ((rings3 3 2).all fun r => zoB 26 35 r && zoB 27 20 r) = true := by kernel_rfl
theorem zo_333 : ((rings3 3 3).all fun r => zoB 26 35 r && zoB 27 20 r) = true := by kernel_rfl
theorem zo_334 : ((rings3 3 4).all fun r => zoB 26 35 r && zoB 27 20 r) = true := by kernel_rfl
theorem zo_335 : ((rings3 3 5).all fun r => zoB 26 35 r && zoB 27 20 r) = true := by kernel_rfl
end Fi.S
