/- The chapter's example, run by the kernel. -/
import Derived.Test.YtonmcbnjifeagaaGreatDoorSEnv
set_option linter.unusedVariables false
set_option linter.unusedSimpArgs false
namespace Fi.S
open Go Fi
set_option maxRecDepth 1000000
theorem awake_yes:yes (callN E0 100000 11 [] [])=true:=by kernel_rfl
theorem awake_run (k:Nat):callN E0 (100000+k) 11 [] []=some (.d (.v (.bool true)),none):=call_mono (of_yes awake_yes) (Nat.le_add_right _ _)
theorem awake_ca:Ca E0 11 [] (.d (.v (.bool true)),none):=Ca.of (awake_run 0)
end Fi.S
