import Derived.Test.YtbbogkfadofneaaGreatDoorCT
set_option linter.unusedVariables false
set_option linter.unusedSimpArgs false
namespace Fi.S
open Go Fi
set_option maxHeartbeats 8000000
set_option maxRecDepth 10000
section
variable {α:Type} {e:α->W}
end
end Fi.S
