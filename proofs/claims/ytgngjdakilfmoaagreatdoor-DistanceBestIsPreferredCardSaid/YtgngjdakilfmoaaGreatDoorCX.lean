import Derived.Test.YtgngjdakilfmoaaGreatDoorCT
set_option linter.unusedVariables false
set_option linter.unusedSimpArgs false
noncomputable section
namespace Fi.S
open Go Fi
set_option maxHeartbeats 8000000
set_option maxRecDepth 10000
section
variable {α:Type} {e:α->W}
def acJ (e:α->W)(a:Ar α):ah:=.box ((a.d e).cells.map .d)
end
section
variable {α:Type} {e:α->W}
end
end Fi.S
