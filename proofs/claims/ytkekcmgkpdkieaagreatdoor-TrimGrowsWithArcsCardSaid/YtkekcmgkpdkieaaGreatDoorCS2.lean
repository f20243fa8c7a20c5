import Derived.Test.YtkekcmgkpdkieaaGreatDoorCT
set_option linter.unusedVariables false
set_option linter.unusedSimpArgs false
noncomputable section
namespace Fi.S
open Go Fi
set_option maxHeartbeats 8000000
set_option maxRecDepth 10000
section
variable {α:Type} {e:α->W}
def fE (e:α->W)(a:Ar α):ae:=.box ((a.d e).cells.map .d)
end
end Fi.S
