/- Zero and One of three parts. -/
import Derived.Test.YtonmcbnjifeagaaGreatDoorPRings
set_option linter.unusedVariables false
set_option linter.unusedSimpArgs false
namespace Fi.S
open Go Fi
set_option maxHeartbeats 8000000
set_option maxRecDepth 1000000
theorem zo_311 : ((rings3 1 1).all fun r => zoB 26 35 r && zoB 27 20 r) = true := by kernel_rfl
theorem zo_312 : ((rings3 1 2).all fun r => zoB 26 35 r && zoB 27 20 r) = true := by kernel_rfl
theorem zo_313 : ((rings3 1 3).all fun r => zoB 26 35 r && zoB 27 20 r) = true := by kernel_rfl
theorem zo_314 : ((rings3 1 4).all fun r => zoB 26 35 r && zoB 27 20 r) = true := by kernel_rfl
theorem zo_315 : ((rings3 1 5).all fun r => zoB 26 35 r && zoB 27 20 r) = true := by kernel_rfl
theorem zo_321 : ((rings3 2 1).all fun r => zoB 26 35 r && zoB 27 20 r) = true := by kernel_rfl
theorem zo_322 : ((rings3 2 2).all fun r => zoB 26 35 r && zoB 27 20 r) = true := by kernel_rfl
theorem zo_323 : ((rings3 2 3).all fun r => zoB 26 35 r && zoB 27 20 r) = true := by kernel_rfl
theorem zo_324 : ((rings3 2 4).all fun r => zoB 26 35 r && zoB 27 20 r) = true := by kernel_rfl
theorem zo_325 : ((rings3 2 5).all fun r => zoB 26 35 r && zoB 27 20 r) = true := by kernel_rfl
end Fi.S
