/- The chapter's example, run by the kernel. -/
import Derived.Test.YtonmcbnjifeagaaGreatDoorSEnv
namespace Fi.S
open Go Fi
set_option maxRecDepth 1000000
theorem MV:yes (bX E0 100000 11 [] [])=true:=by kernel_rfl
theorem MW (k:Nat):bX E0 (100000+k) 11 [] []=some (.d (.v (.bool true)),none):=qi (X8 MV) (Nat.le_add_right _ _)
theorem Rj:Ca E0 11 [] (.d (.v (.bool true)),none):=Ca.of (MW 0)
end Fi.S
