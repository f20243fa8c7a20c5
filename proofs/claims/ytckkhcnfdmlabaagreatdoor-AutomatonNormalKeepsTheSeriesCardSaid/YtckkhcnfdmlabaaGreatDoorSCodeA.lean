import Derived.Test.YtckkhcnfdmlabaaGreatDoorSCode0
set_option linter.unusedVariables false
set_option linter.unusedSimpArgs false
namespace Fi.S
open Go Fi Go.Proofs
set_option maxHeartbeats 8000000
set_option maxRecDepth 1000000
def f12:ai:=by
 have:aD 12 Tryz.f21=some ?F:=by conv=>lhs;reduce;try dsimp
 exact ?F
def f14:ai:=by
 have:aD 14 Tryz.f99=some ?F:=by conv=>lhs;reduce;try dsimp
 exact ?F
def f15:ai:=by
 have:aD 15 Tryz.f15=some ?F:=by conv=>lhs;reduce;try dsimp
 exact ?F
def f16:ai:=by
 have:aD 16 Tryz.f17=some ?F:=by conv=>lhs;reduce;try dsimp
 exact ?F
def f18:ai:=by
 have:aD 18 Tryz.f36=some ?F:=by conv=>lhs;reduce;try dsimp
 exact ?F
def f19:ai:=by
 have:aD 19 Tryz.f58=some ?F:=by conv=>lhs;reduce;try dsimp
 exact ?F
def f20:ai:=by
 have:aD 20 Tryz.f33=some ?F:=by conv=>lhs;reduce;try dsimp
 exact ?F
def f21:ai:=by
 have:aD 21 Tryz.f59=some ?F:=by conv=>lhs;reduce;try dsimp
 exact ?F
def f26:ai:=by
 have:aD 26 Tryz.f37=some ?F:=by conv=>lhs;reduce;try dsimp
 exact ?F
def f27:ai:=by
 have:aD 27 Tryz.f38=some ?F:=by conv=>lhs;reduce;try dsimp
 exact ?F
def f28:ai:=by
 have:aD 28 Tryz.f39=some ?F:=by conv=>lhs;reduce;try dsimp
 exact ?F
def f29:ai:=by
 have:aD 29 Tryz.f55=some ?F:=by conv=>lhs;reduce;try dsimp
 exact ?F
def f31:ai:=by
 have:aD 31 Tryz.f35=some ?F:=by conv=>lhs;reduce;try dsimp
 exact ?F
def f32:ai:=by
 have:aD 32 Tryz.f72=some ?F:=by conv=>lhs;reduce;try dsimp
 exact ?F
def f34:ai:=by
 have:aD 34 Tryz.f71=some ?F:=by conv=>lhs;reduce;try dsimp
 exact ?F
def f35:ai:=by
 have:aD 35 Tryz.f19=some ?F:=by conv=>lhs;reduce;try dsimp
 exact ?F
def f38:ai:=by
 have:aD 38 Tryz.f34=some ?F:=by conv=>lhs;reduce;try dsimp
 exact ?F
def f39:ai:=by
 have:aD 39 Tryz.f56=some ?F:=by conv=>lhs;reduce;try dsimp
 exact ?F
def f40:ai:=by
 have:aD 40 Tryz.f57=some ?F:=by conv=>lhs;reduce;try dsimp
 exact ?F
def f41:ai:=by
 have:aD 41 Tryz.f136=some ?F:=by conv=>lhs;reduce;try dsimp
 exact ?F
def f42:ai:=by
 have:aD 42 Tryz.f82=some ?F:=by conv=>lhs;reduce;try dsimp
 exact ?F
def f43:ai:=by
 have:aD 43 Tryz.f83=some ?F:=by conv=>lhs;reduce;try dsimp
 exact ?F
def f45:ai:=by
 have:aD 45 Tryz.f137=some ?F:=by conv=>lhs;reduce;try dsimp
 exact ?F
def f46:ai:=by
 have:aD 46 Tryz.f16=some ?F:=by conv=>lhs;reduce;try dsimp
 exact ?F
def f47:ai:=by
 have:aD 47 Tryz.f48=some ?F:=by conv=>lhs;reduce;try dsimp
 exact ?F
def f48:ai:=by
 have:aD 48 Tryz.f49=some ?F:=by conv=>lhs;reduce;try dsimp
 exact ?F
def f49:ai:=by
 have:aD 49 Tryz.f50=some ?F:=by conv=>lhs;reduce;try dsimp
 exact ?F
def f50:ai:=by
 have:aD 50 Tryz.f51=some ?F:=by conv=>lhs;reduce;try dsimp
 exact ?F
def f51:ai:=by
 have:aD 51 Tryz.f52=some ?F:=by conv=>lhs;reduce;try dsimp
 exact ?F
def f53:ai:=by
 have:aD 53 Tryz.f42=some ?F:=by conv=>lhs;reduce;try dsimp
 exact ?F
def f54:ai:=by
 have:aD 54 Tryz.f95=some ?F:=by conv=>lhs;reduce;try dsimp
 exact ?F
def f55:ai:=by
 have:aD 55 Tryz.f96=some ?F:=by conv=>lhs;reduce;try dsimp
 exact ?F
def f56:ai:=by
 have:aD 56 Tryz.f53=some ?F:=by conv=>lhs;reduce;try dsimp
 exact ?F
def f57:ai:=by
 have:aD 57 Tryz.f97=some ?F:=by conv=>lhs;reduce;try dsimp
 exact ?F
def f58:ai:=by
 have:aD 58 Tryz.f92=some ?F:=by conv=>lhs;reduce;try dsimp
 exact ?F
def f62:ai:=by
 have:aD 62 Tryz.f207=some ?F:=by conv=>lhs;reduce;try dsimp
 exact ?F
def f64:ai:=by
 have:aD 64 Tryz.f84=some ?F:=by conv=>lhs;reduce;try dsimp
 exact ?F
def f65:ai:=by
 have:aD 65 Tryz.f85=some ?F:=by conv=>lhs;reduce;try dsimp
 exact ?F
def f66:ai:=by
 have:aD 66 Tryz.f93=some ?F:=by conv=>lhs;reduce;try dsimp
 exact ?F
def f67:ai:=by
 have:aD 67 Tryz.f79=some ?F:=by conv=>lhs;reduce;try dsimp
 exact ?F
def f68:ai:=by
 have:aD 68 Tryz.f80=some ?F:=by conv=>lhs;reduce;try dsimp
 exact ?F
def f69:ai:=by
 have:aD 69 Tryz.f81=some ?F:=by conv=>lhs;reduce;try dsimp
 exact ?F
def f70:ai:=by
 have:aD 70 Tryz.f114=some ?F:=by conv=>lhs;reduce;try dsimp
 exact ?F
def f71:ai:=by
 have:aD 71 Tryz.f111=some ?F:=by conv=>lhs;reduce;try dsimp
 exact ?F
def f72:ai:=by
 have:aD 72 Tryz.f112=some ?F:=by conv=>lhs;reduce;try dsimp
 exact ?F
def VE:TF:=[(12,f12),(14,f14),(15,f15),(16,f16),(18,f18),(19,f19),(20,f20),(21,f21),(26,f26),(27,f27),(28,f28),(29,f29),(31,f31),(32,f32),(34,f34),(35,f35),(38,f38),(39,f39),(40,f40),(41,f41),(42,f42),(43,f43),(45,f45),(46,f46),(47,f47),(48,f48),(49,f49),(50,f50),(51,f51),(53,f53),(54,f54),(55,f55),(56,f56),(57,f57),(58,f58),(62,f62),(64,f64),(65,f65),(66,f66),(67,f67),(68,f68),(69,f69),(70,f70),(71,f71),(72,f72)]
theorem ahX:xk VE:=by
 unfold VE
 repeat refine GL (by kernel_rfl) ?_
 exact GM
end Fi.S
