/- Zero and One of three parts. -/
import Derived.Test.YtonmcbnjifeagaaGreatDoorPRings
set_option linter.unusedVariables false
set_option linter.unusedSimpArgs false
namespace Fi.S
open Go Fi
set_option maxHeartbeats 8000000
set_option maxRecDepth 1000000
theorem zo_341 : ((rings3 4 1).all fun r => zoB 26 35 r && zoB 27 20 r) = true := by kernel_rfl
theorem zo_342 : ((rings3 4 2).all fun r => zoB 26 35 r && zoB 27 20 r) = true := by kernel_rfl
theorem zo_343 : ((rings3 4 3).all fun r => zoB 26 35 r && zoB 27 20 r) = true := by kernel_rfl
theorem zo_344 : ((rings3 4 4).all fun r => zoB 26 35 r && zoB 27 20 r) = true := by kernel_rfl
theorem zo_345 : ((rings3 4 5).all fun r => zoB 26 35 r && zoB 27 20 r) = true := by kernel_rfl
theorem zo_351 : ((rings3 5 1).all fun r => zoB 26 35 r && zoB 27 20 r) = true := by kernel_rfl
theorem zo_352 : ((rings3 5 2).all fun r => zoB 26 35 r && zoB 27 20 r) = true := by kernel_rfl
theorem zo_353 : ((rings3 5 3).all fun r => zoB 26 35 r && zoB 27 20 r) = true := by kernel_rfl
theorem zo_354 : ((rings3 5 4).all fun r => zoB 26 35 r && zoB 27 20 r) = true := by kernel_rfl
theorem zo_355 : ((rings3 5 5).all fun r => zoB 26 35 r && zoB 27 20 r) = true := by kernel_rfl
end Fi.S
