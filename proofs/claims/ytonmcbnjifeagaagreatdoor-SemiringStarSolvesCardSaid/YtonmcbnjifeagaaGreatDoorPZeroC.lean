/- Zero and One of three parts. -/
import Derived.Test.YtonmcbnjifeagaaGreatDoorPZero
set_option linter.unusedVariables false
set_option linter.unusedSimpArgs false
namespace Fi.S
open Go Fi
set_option maxHeartbeats 8000000
set_option maxRecDepth 1000000
end Fi.S
