import Derived.Test.YtkekcmgkpdkieaaGreatDoorCT
namespace Fi.S
open Go Fi
set_option maxHeartbeats 8000000
set_option maxRecDepth 10000
section
variable {α:Type} {e:α->W} {kk:Int} {ps:List Int}
end
end Fi.S
